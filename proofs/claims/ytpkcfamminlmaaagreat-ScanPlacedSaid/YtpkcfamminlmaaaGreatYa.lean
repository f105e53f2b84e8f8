import Derived.Test.YtpkcfamminlmaaaGreatXc
import Derived.Test.YtpkcfamminlmaaaGreatXb
set_option linter.unusedVariables false
set_option linter.unusedSimpArgs false
set_option linter.unusedSectionVars false
namespace Go.Ev
open Go.Proofs
set_option maxRecDepth 100000
variable {K:Nat}
abbrev Nk(k:IntKind)(a:Nat):EV:=.int k (Int.ofNat a)
theorem wrap_u8(a:Nat):Dk .u8 (Int.ofNat a)=Int.ofNat (a % 256):=by
 rw[Lf]
 rfl
theorem wrap_u32(a:Nat):Dk .u32 (Int.ofNat a)=Int.ofNat (a % 4294967296):=by
 rw[Lf]
 rfl
theorem Aoc {c:IntKind}{a:Nat}{k:EV->R}:Pk .u8 (.int c (Int.ofNat a)) k=k (Nk .u8 (a % 256)):=by
 rw[A5x,wrap_u8]
theorem Ajl {t:Nat}{a:Nat}{k:EV->R}:K3 (bin TT .shr t) (.int .i64 (Int.ofNat a)) (.int .u64 8) k=k (Nk .i64 (a / 256)):=by
 show k (.int .i64 (.ofNat (Nat.shiftRight a 8)))=_
 have:Nat.shiftRight a 8=a / 256:=Nat.shiftRight_eq_div_pow a 8
 rw[this]
theorem Aj0 {t s:Nat}(hs:s<=32){a:Nat}{k:EV->R}:K3 (bin TT .shr t) (.int .u32 (Int.ofNat a)) (.int .u64 (Int.ofNat s)) k=k (Nk .u32 (a / 2 ^ s)):=by
 show k (.int .u32 (.ofNat (Nat.shiftRight a (Ay (Nat.ble s 32) s 32))))=_
 rw[Nat.ble_eq_true_of_le hs,An]
 have:Nat.shiftRight a s=a / 2 ^ s:=Nat.shiftRight_eq_div_pow a s
 rw[this]
theorem A1p {t:Nat}{a b:Nat}(ha:a<4294967296)(hb:b<4294967296){k:EV->R}:K3 (bin TT .xor t) (.int .u32 (Int.ofNat a)) (.int .u32 (Int.ofNat b)) k=k (Nk .u32 (a ^^^ b)):=by
 show k (.int .u32 (Dk .u32 (.ofNat (Nat.xor a b))))=_
 rw[wrap_u32]
 have:Nat.xor a b<2 ^ 32:=Nat.xor_lt_two_pow (n:=32) ha hb
 rw[Nat.mod_eq_of_lt (by exact this)];rfl
theorem A9k {t:Nat}{a b:Nat}(ha:a<256)(hb:b<256){k:EV->R}:K3 (bin TT .xor t) (.int .u8 (Int.ofNat a)) (.int .u8 (Int.ofNat b)) k=k (Nk .u8 (a ^^^ b)):=by
 show k (.int .u8 (Dk .u8 (.ofNat (Nat.xor a b))))=_
 rw[wrap_u8]
 have:Nat.xor a b<2 ^ 8:=Nat.xor_lt_two_pow (n:=8) ha hb
 rw[Nat.mod_eq_of_lt (by exact this)];rfl
def wd:Nat->Nat->Nat
 | 0,_=>1
 | f+1,a=>if a / 256=0 then 1 else wd f (a / 256)+1
theorem Bdh:∀ (f a w:Nat),a<256 ^ (f+1)->1<=w->(wd f a<=w ↔ a<256 ^ w)
 | 0,a,w,h,hw=>by
  refine⟨fun _=>Nat.lt_of_lt_of_le h (Nat.pow_le_pow_right (by decide) (by omega)),fun _=>hw⟩
 | f+1,a,w,h,hw=>by
  unfold wd
  by_cases h0:a / 256=0
  ·rw[if_pos h0]
   refine⟨fun _=>?_,fun _=>hw⟩
   have:a<256:=by omega
   exact Nat.lt_of_lt_of_le this (by have:=Nat.pow_le_pow_right (n:=256) (by decide) hw;simpa using this)
  ·rw[if_neg h0]
   have ih:=Bdh f (a / 256) (w-1) (by rw[Nat.pow_succ]at h;exact Nat.div_lt_of_lt_mul (by rw[Nat.mul_comm];exact h))
   by_cases h1:w=1
   ·subst h1
    refine⟨fun y=>?_,fun y=>?_⟩
    ·have:1<=wd f (a / 256):=by cases f <;> unfold wd <;> (try split) <;> omega
     omega
    ·exfalso;apply h0;simp at y;omega
   ·have ih:=ih (by omega)
    obtain⟨v,rfl⟩:∃ v,w=v+1:=⟨w-1,by omega⟩
    rw[Nat.add_sub_cancel]at ih
    rw[Nat.pow_succ]
    refine⟨fun y=>?_,fun y=>?_⟩
    ·have:=ih.1 (by omega)
     have:=Nat.div_lt_iff_lt_mul (k:=256) (x:=a) (y:=256 ^ v) (by decide)
     omega
    ·have:=ih.2 (Nat.div_lt_of_lt_mul (by rw[Nat.mul_comm];exact y))
     omega
theorem A0b:∀ (f m a n:Nat) (h:Aa),f<m->a<256 ^ (f+1)->n+f<=100->f<=10 ->
 Gs K m (Nk .i64 a) (Nk .i64 n) h=Oa K (Nk .i64 (a / 256 ^ (wd f a-1))) (Nk .i64 (n+wd f a-1)) h:=by
 intro f
 induction f with
 | zero=>
  intro m a n h hm ha hn hf
  obtain⟨m,rfl⟩:∃ k,m=k+1:=⟨m-1,by omega⟩
  have:a / 256=0:=by simp at ha;omega
  simp only[Gs]
  rw[Ajl,this]
  simp only[Nk,Ai]
  rw[show decide ((0:Int)<Int.ofNat 0)=false from rfl]
  simp only[Ab,wd,Nat.sub_self,Nat.pow_zero,Nat.div_one,Nat.add_sub_cancel]
 | succ f ih=>
  intro m a n h hm ha hn hf
  obtain⟨m,rfl⟩:∃ k,m=k+1:=⟨m-1,by omega⟩
  simp only[Gs]
  rw[Ajl]
  simp only[Nk,Ai]
  unfold wd
  by_cases h0:a / 256=0
  ·rw[if_pos h0,h0]
   rw[show decide ((0:Int)<Int.ofNat 0)=false from rfl]
   simp only[Ab,Nat.sub_self,Nat.pow_zero,Nat.div_one,Nat.add_sub_cancel]
  ·rw[if_neg h0,show decide ((0:Int)<Int.ofNat (a / 256))=true from decide_eq_true (by show (0:Int)<((a / 256:Nat):Int);omega)]
   simp only[Ab,Af1]
   rw[Ajl]
   simp only[Nk,Ai]
   rw[show Dk .i64 (Int.ofNat n+1)=Int.ofNat (n+1) from C8 (by show _<=((n:Nat):Int)+1;omega) (by show ((n:Nat):Int)+1<=_;omega)]
   have e:=ih m (a / 256) (n+1) h (by omega) (Nat.div_lt_of_lt_mul (by rw[Nat.mul_comm,<-Nat.pow_succ];exact ha)) (by omega) (by omega)
   rw[e]
   have hw:1<=wd f (a / 256):=by cases f <;> unfold wd <;> (try split) <;> omega
   obtain⟨u,hu⟩:∃ u,wd f (a / 256)=u+1:=⟨wd f (a / 256)-1,by omega⟩
   rw[hu,Nat.add_sub_cancel,show u+1+1-1=u+1 from rfl,Nat.pow_succ',Nat.div_div_eq_div_mul,show n+1+(u+1)-1=n+(u+1+1)-1 by omega]
def Ab9(a:Nat):Nat:=if 7<wd 7 a then 8 else wd 7 a
theorem A3q {a:Nat}(ha:a<9223372036854775808)(hK:1000<K)(h:Aa):Og K (.int .i64 (Int.ofNat a)) h=some (Nk .i64 (Ab9 a),h):=by
 unfold Og Ab9
 have e:=A0b (K:=K) 7 K a 1 h (by omega) (Nat.lt_trans ha (by decide)) (by decide) (by decide)
 have:(EV.int .i64 1)=Nk .i64 1:=rfl
 rw[this,e]
 have hw:1<=wd 7 a:=by unfold wd;split <;> omega
 simp only[Oa,Nk,Ai]
 rw[show decide (Int.ofNat (a / 256 ^ (wd 7 a-1))<0)=false from decide_eq_false (by show ¬ (((a / 256 ^ (wd 7 a-1):Nat):Int)<0);exact Int.not_lt.2 (Int.natCast_nonneg _))]
 rw[show 1+wd 7 a-1=wd 7 a by omega]
 by_cases h7:7<wd 7 a
 ·rw[show decide ((7:Int)<Int.ofNat (wd 7 a))=true from decide_eq_true (by show (7:Int)<((wd 7 a:Nat):Int);omega),if_pos h7]
  simp only[Ab,Oe]
  rfl
 ·rw[show decide ((7:Int)<Int.ofNat (wd 7 a))=false from decide_eq_false (by show ¬ ((7:Int)<((wd 7 a:Nat):Int));omega),if_neg h7]
  simp only[Ab,Oe,Aga]
theorem A5r {a:Nat}(hK:1000<K)(h:Aa):Og K (.int .i64 (Int.negSucc a)) h=some (I 8,h):=by
 obtain⟨m,rfl⟩:∃ k,K=k+1:=⟨K-1,by omega⟩
 unfold Og
 simp only[Gs]
 have e:∀ k:EV->R,K3 (bin TT .shr 3) (.int .i64 (Int.negSucc a)) (.int .u64 8) k=k (.int .i64 ((Int.negSucc a).fdiv 256)):=fun k=>rfl
 have hneg:(Int.negSucc a).fdiv 256<0:=by
  rw[Int.fdiv_eq_ediv_of_nonneg _ (by decide)]
  have:Int.negSucc a<0:=Int.negSucc_lt_zero a
  omega
 rw[e]
 simp only[Ai]
 rw[show decide ((0:Int)<(Int.negSucc a).fdiv 256)=false from decide_eq_false (by omega)]
 simp only[Ab,Oa,Ai]
 rw[show decide (Int.negSucc a<0)=true from decide_eq_true (Int.negSucc_lt_zero a)]
 simp only[Ab,Oe,I]
theorem A3y {a w:Nat}(ha:a<9223372036854775808)(h1:1<=w)(h7:w<=7):Ab9 a<=w ↔ a<256 ^ w:=by
 have:=Bdh 7 a w (Nat.lt_trans ha (by decide)) h1
 rw[<-this]
 unfold Ab9
 split <;> omega
def Qx(w a:Nat):List Nat:=(List.range w).map fun i=>a / 256 ^ i % 256
theorem Aw2(w a:Nat):Qx (w+1) a=Qx w a++[a / 256 ^ w % 256]:=by unfold Qx;rw[List.range_succ,List.map_append];rfl
theorem Gu(w a:Nat):(Qx w a).length=w:=by simp[Qx]
theorem Auo(a b:List Nat):Dl (a++b)=Dl a++Dl b:=List.map_append
theorem Cu(a:List Nat):(Dl a).length=a.length:=List.length_map _
structure Aro(h:Aa)(P t:Nat)(out:List Nat)(bad:Bool):Prop where
 Pb:∃ s q,h.get P=some (.cells [s,.bool bad] t)/\Bu h s q 5 1 out.length (Dl out)/\(0<out.length->P<q)
theorem Adw(n:Int)(h:Aa):Mm K (I n) h=some (.bool (decide (1<=n/\n<=7)),h):=by
 simp only[Mm,I,Ai,Ab]
 by_cases h1:1<=n
 ·simp only[h1,decide_true,Ab,Ai,Qa,true_and]
 ·simp only[h1,decide_false,Ab,Qa,false_and]
theorem A7u {P t w:Nat}{bad:Bool}{a:Nat}(ha:a<9223372036854775808)(hw:w<=7){out:List Nat}(ho:out.length<=60000)(h0:Aa)(hP:P<h0.next):∀ (m i:Nat) (h:Aa),w-i<m->i<=w->HB h->A9 (fun i=>P<=i) h0 h->Aro h P t (out++Qx i a) bad ->
 Ok (Ha K m (.ptr P 0) (Nk .i64 (a / 256 ^ i)) (I w) (I i) h) fun _ h'=>Aro h' P t (out++Qx w a) bad/\A9 (fun i=>P<=i) h0 h'/\HB h':=by
 intro m
 induction m with
 | zero=>intro i h hm;omega
 | succ m ih=>
  intro i h hm hi hb c p
  obtain⟨s,q,g,r,l⟩:=p.Pb
  simp only[Ha,I,Ai,Ab]
  by_cases hlt:(i:Int)<w
  ·simp only[hlt,decide_true,Ab,Abi,Ck g rfl]
   rw[wrap_u8]
   have hlen:(out++Qx i a).length=out.length+i:=by rw[List.length_append,Gu]
   refine Of (z:=[.int .u8 0]) r hb rfl rfl rfl (by omega) (by omega) ?_
   intro h2 r2 n2 c2
   have gq:¬ (0<(out++Qx i a).length/\P=q):=fun y=>by have:=l y.1;omega
   have g2:=c2.at hb g gq
   have lP:=(c2.hb hb) _ _ g2
   refine Ok.st1 g2 rfl rfl (by show 0<2;decide) ?_
   rw[Ajl]
   simp only[Aay,I,Ai]
   rw[C8 (by omega) (by omega),Nat.div_div_eq_div_mul,<-Nat.pow_succ]
   have c3:A9 (fun i=>P<=i) h (h2.put P (.cells ([s,EV.bool bad].set 0 (.slice (h.next+1) 0 ((out++Qx i a).length+1) ((out++Qx i a).length+1) true)) t)):=(c2.mono fun j hj=>by have:=l hj.1;show P<=j;omega).A5 (.inl (Nat.le_refl _)) lP _
   refine ih (i+1) _ (by omega) (by omega) ((c2.hb hb).put lP _) (c.trans c3) ?_
   rw[Aw2,<-List.append_assoc]
   refine⟨_,h.next+1,Aj _ _ _,?_,fun _=>by have:=c.next;omega⟩
   have e1:((out++Qx i a)++[a / 256 ^ i % 256]).length=(out++Qx i a).length+1:=by rw[List.length_append];rfl
   have e2:Dl ((out++Qx i a)++[a / 256 ^ i % 256])=Dl (out++Qx i a)++EV.cells (Nk .u8 (a / 256 ^ i % 256)):=by rw[Auo];rfl
   rw[e1,e2]
   refine r2.frame fun _=>As _ ?_
   have:=hb _ _ g;omega
  ·have:i=w:=by omega
   subst this
   simp only[hlt,decide_false,Ab]
   exact .ret ⟨p,c,hb⟩
def fits(w:Nat)(v:Int):Bool:=decide (0<=v/\v<(256 ^ w:Nat))
theorem Jr {P t w:Nat}{bad:Bool}{out:List Nat}(hK:1000<K){h:Aa}(p:Aro h P t out bad)(hb:HB h)(ho:out.length<=60000)(h1:1<=w)(h7:w<=7){v:Int}(hv : -9223372036854775808<=v/\v<=9223372036854775807):
 Ok (Ea K (.ptr P 0) (I w) (I v) h) fun _ h'=>Aro h' P t (if fits w v=true then out++Qx w v.toNat else out) (bad || !fits w v)/\A9 (fun i=>P<=i) h h'/\HB h':=by
 obtain⟨s,q,g,r,l⟩:=p.Pb
 have lP:=hb _ _ g
 simp only[Ea]
 rw[Adw,decide_eq_true ⟨by omega,by omega⟩]
 simp only[Ab,Ai]
 have no:fits w v=false->Ok (Dw 1 (.ptr P 1) (.bool true) h fun h=>some (.tuple [],h)) fun _ h'=>Aro h' P t (if fits w v=true then out++Qx w v.toNat else out) (bad || !fits w v)/\A9 (fun i=>P<=i) h h'/\HB h':=by
  intro hf
  refine Ok.st1 g rfl rfl (by show 1<2;decide) ?_
  refine .ret ⟨?_,(A9.refl (S:=fun i=>P<=i) h).A5 (.inl (Nat.le_refl _)) lP _,hb.put lP _⟩
  rw[hf,if_neg (by simp),Bool.not_false,Bool.or_true]
  exact⟨s,q,Aj _ _ _,r.frame fun y=>As _ (by have:=l y;omega),l⟩
 cases v with
 | negSucc a=>
  unfold I
  rw[A5r hK,Bg]
  simp only[I,Ai]
  rw[show decide ((w:Int)<8)=true from decide_eq_true (by omega)]
  simp only[Ab,Lq]
  exact no (decide_eq_false fun y=>absurd y.1 (by have:=Int.negSucc_lt_zero a;omega))
 | ofNat a=>
  have ha:a<9223372036854775808:=by have:((a:Nat):Int)<=9223372036854775807:=hv.2;omega
  unfold I
  rw[A3q ha hK,Bg]
  have hfit:=A3y ha h1 h7
  simp only[Nk,Ai]
  by_cases hw:Ab9 a<=w
  ·have hf:fits w (Int.ofNat a)=true:=decide_eq_true ⟨Int.natCast_nonneg a,by have:=hfit.1 hw;exact Int.ofNat_lt.2 this⟩
   rw[show decide ((w:Int)<Int.ofNat (Ab9 a))=false from decide_eq_false (by show ¬ (w:Int)<((Ab9 a:Nat):Int);omega)]
   simp only[Ab,Lq,Aa5]
   have:=A7u (K:=K) (P:=P) (t:=t) (w:=w) (bad:=bad) ha h7 ho h lP K 0 h (by omega) (Nat.zero_le _) hb (A9.refl _) (by simpa [Qx] using p)
   rw[Nat.pow_zero,Nat.div_one]at this
   rw[hf,if_pos rfl,Bool.not_true,Bool.or_false]
   exact this
  ·rw[show decide ((w:Int)<Int.ofNat (Ab9 a))=true from decide_eq_true (by show (w:Int)<((Ab9 a:Nat):Int);omega)]
   simp only[Ab,Lq]
   exact no (decide_eq_false fun y=>hw (hfit.2 (Int.ofNat_lt.1 y.2)))
theorem Akd {P t n:Nat}{bad:Bool}{out new:List Nat}{h:Aa}(p:Aro h P t out bad)(hb:HB h)(ho:out.length<=60000){x:EV}(hx:lenOf x=some n)(h0:0<n)(hn:n<=5000)(hc:Ni h 1 n x=some (Dl new))(hl:new.length=n):
 Ok (Mu K (.ptr P 0) x h) fun _ h'=>Aro h' P t (out++new) bad/\A9 (fun i=>P<=i) h h'/\HB h':=by
 obtain⟨s,q,g,r,l⟩:=p.Pb
 have lP:=hb _ _ g
 simp only[Mu,Ab,Ck g rfl]
 obtain⟨h2,e,r2,n2,c2⟩:=Qe r hx h0 (by omega) (by omega) hc (by rw[Cu,hl,Nat.mul_one])
 rw[e,Bg]
 have gq:¬ (0<out.length/\P=q):=fun y=>by have:=l y.1;omega
 have g2:=c2.at hb g gq
 have lP2:=(c2.hb hb) _ _ g2
 try simp only[Ab]
 refine Ok.st1 g2 rfl rfl (by show 0<2;decide) ?_
 refine .ret ⟨⟨_,h.next,Aj _ _ _,?_,fun _=>by omega⟩,(c2.mono fun j hj=>by have:=l hj.1;show P<=j;omega).A5 (.inl (Nat.le_refl _)) lP2 _,(c2.hb hb).put lP2 _⟩
 rw[List.length_append,hl,Auo]
 exact r2.frame fun _=>As _ (by omega)
end Go.Ev

namespace Go.Ev
open Go.Proofs
set_option maxRecDepth 100000
variable {K:Nat}
structure Bs(h:Aa)(x:EV)(b off:Nat)(l:List Nat):Prop where
 Pb:∃ r op o row,x=.slice b off l.length r op/\l.length<=r/\h.get b=some o/\rowOf o=some row/\off+l.length<=row.length/\(row.drop off).take l.length=Dl l
theorem Bs.frame {h h':Aa}{x:EV}{b off:Nat}{l:List Nat}(s:Bs h x b off l)(e:h'.get b=h.get b):Bs h' x b off l:=by
 obtain⟨r,op,o,row,e1,e0,e2,e3,e4,e5⟩:=s.Pb
 exact⟨r,op,o,row,e1,e0,by rw[e];exact e2,e3,e4,e5⟩
theorem Bs.lt {h:Aa}{x:EV}{b off:Nat}{l:List Nat}(s:Bs h x b off l)(hb:HB h):b<h.next:=by
 obtain⟨r,op,o,row,e1,e0,e2,e3,e4,e5⟩:=s.Pb
 exact hb _ _ e2
theorem Bs.ext {h h':Aa}{x:EV}{b off:Nat}{l:List Nat}(s:Bs h x b off l)(hb:HB h)(c:Ext h h'):Bs h' x b off l:=s.frame (c.get _ (s.lt hb) id)
theorem Bs.lift {h:Aa}{x:EV}{b off:Nat}{l:List Nat}(s:Bs h x b off l):Bs h.lift x b off l:=s.frame (Di _ _)
theorem Bs.len {h:Aa}{x:EV}{b off:Nat}{l:List Nat}(s:Bs h x b off l):lenOf x=some l.length:=by
 obtain⟨r,op,o,row,rfl,_⟩:=s.Pb;rfl
theorem Bs.E9 {h:Aa}{x:EV}{b off:Nat}{l:List Nat}(s:Bs h x b off l)(k:EV->R):Ev.E9 x k=k (I l.length):=by
 obtain⟨r,op,o,row,rfl,_⟩:=s.Pb;rfl
theorem Bs.cells {h:Aa}{x:EV}{b off:Nat}{l:List Nat}(s:Bs h x b off l):Ni h 1 l.length x=some (Dl l):=by
 obtain⟨r,op,o,row,rfl,e0,e2,e3,e4,e5⟩:=s.Pb
 show Ay (Nat.beq l.length 0) (some []) (Ut h b off (Nat.mul l.length 1))=_
 rw[show Nat.mul l.length 1=l.length from Nat.mul_one _]
 have hc:Nf row off l.length=some (Dl l):=by rw[Hx e4,e5]
 cases hl:l with
 | nil=>rfl
 | cons a r=>
  rw[show Nat.beq (a::r).length 0=false from rfl,A6]
  unfold Ut
  rw[e2,<-hl]
  cases o <;> first|(cases e3;done)|(cases e3;exact hc)
theorem Bs.ix {h:Aa}{x:EV}{b off:Nat}{l:List Nat}(s:Bs h x b off l){i:Nat}(hi:i<l.length):(∀ k:EV->R,Gn 1 x (.int .i64 (i:Int)) k=k (.ptr b (off+i)))/\(∀ k:EV->R,Av (.ptr b (off+i)) h k=k (Nk .u8 l[i])):=by
 obtain⟨r,op,o,row,rfl,e0,e2,e3,e4,e5⟩:=s.Pb
 refine⟨fun k=>by rw[Aas hi,Nat.mul_one],fun k=>?_⟩
 rw[Ck e2 e3]
 have:row[off+i]? = some (Nk .u8 l[i]):=by
  have e5:=congrArg (fun z=>z[i]?) e5
  simp only[List.getElem?_take,hi,if_true,List.getElem?_drop]at e5
  rw[e5]
  unfold Dl
  rw[List.getElem?_map,List.getElem?_eq_getElem hi];rfl
 rw[this];rfl
theorem Bs.take {h:Aa}{x:EV}{b off:Nat}{l:List Nat}(s:Bs h x b off l){n:Nat}(hn:n<=l.length):∃ y,(∀ k:EV->R,Wz 1 x none (some (.int .i64 (n:Int))) none k=k y)/\Bs h y b off (l.take n):=by
 obtain⟨r,op,o,row,rfl,e0,e2,e3,e4,e5⟩:=s.Pb
 have hl:(l.take n).length=n:=by rw[List.length_take,Nat.min_eq_left hn]
 refine⟨EV.slice b off n r op,fun k=>?_,⟨r,op,o,row,by rw[hl],by rw[hl];omega,e2,e3,by rw[hl];omega,?_⟩⟩
 ·have:slc (EV.slice b off l.length r op) 1 none (some (.int .i64 (n:Int))) none=some (EV.slice b off n r op):=by
   have hbd:bound (some (.int .i64 (n:Int))) r l.length=some n:=by
    show Ay (Nat.ble n r) (some n) none=_
    rw[Nat.ble_eq_true_of_le (by omega),An]
   unfold slc
   simp only[hbd]
   cases op with
   | true=>rfl
   | false=>
    show Ay (Nat.ble 0 r) (some (EV.slice b (Ay (Nat.beq r 0) off (Nat.add off (Nat.mul 0 1))) n r false)) none=_
    rw[Nat.ble_eq_true_of_le (Nat.zero_le _),An]
    have:Ay (Nat.beq r 0) off (Nat.add off (Nat.mul 0 1))=off:=by
     rw[show Nat.add off (Nat.mul 0 1)=off from rfl];cases Nat.beq r 0 <;> rfl
    rw[this]
  unfold Wz;rw[this];rfl
 ·rw[hl]
  have:=congrArg (fun z=>z.take n) e5
  simp only[List.take_take,Nat.min_eq_left hn]at this
  rw[this];unfold Dl;rw[List.map_take]
theorem Bs.drop {h:Aa}{b off:Nat}{l:List Nat}{r:Nat}{op:Bool}(s:Bs h (.slice b off l.length r op) b off l){n:Nat}(hn:n<l.length):(∀ k:EV->R,Wz 1 (.slice b off l.length r op) (some (.int .i64 (n:Int))) none none k=k (.slice b (off+n) (l.length-n) (r-n) op))/\Bs h (.slice b (off+n) (l.length-n) (r-n) op) b (off+n) (l.drop n):=by
 obtain⟨r',op',o,row,e1,e0,e2,e3,e4,e5⟩:=s.Pb
 injection e1 with _ _ _ a1 a2
 subst a1 a2
 have hl:(l.drop n).length=l.length-n:=by rw[List.length_drop]
 refine⟨fun k=>?_,⟨r-n,op,o,row,by rw[hl],by rw[hl];omega,e2,e3,by rw[hl];omega,?_⟩⟩
 ·have:slc (.slice b off l.length r op) 1 (some (.int .i64 (n:Int))) none none=some (.slice b (off+n) (l.length-n) (r-n) op):=by
   have hbd:bound (some (.int .i64 (n:Int))) l.length 0=some n:=by
    show Ay (Nat.ble n l.length) (some n) none=_
    rw[Nat.ble_eq_true_of_le (by omega),An]
   have hb2:bound none r l.length=some l.length:=rfl
   unfold slc
   simp only[hbd,hb2]
   cases op with
   | true=>
    rw[An]
    cases n with
    | zero=>rfl
    | succ n=>
     rw[show Nat.beq (n+1) 0=false from rfl,A6,Nat.ble_eq_true_of_le (by show n+1+1<=r;omega),An,show Nat.mul (n+1) 1=n+1 from Nat.mul_one _]
     rfl
   | false=>
    rw[A6,Nat.ble_eq_true_of_le (by show n<=r;omega),An,show Nat.mul n 1=n from Nat.mul_one _]
    have:Nat.beq r n=false:=by
     cases hq:Nat.beq r n with
     | false=>rfl
     | true=>have:=Nat.eq_of_beq_eq_true hq;omega
    rw[this,A6];rfl
  unfold Wz;rw[this];rfl
 ·have:=congrArg (fun z=>z.drop n) e5
  rw[hl]
  simp only[List.drop_take,List.drop_drop]at this
  rw[this];unfold Dl;rw[List.map_drop]
theorem Bu.bs {h:Aa}{s:EV}{q:Nat}{l:List Nat}(r:Bu h s q 5 1 l.length (Dl l))(hl:0<l.length):Bs h s q 0 l:=by
 refine⟨l.length,true,_,Dl l,r.slice hl,Nat.le_refl _,r.block hl,rfl,by rw[Cu,Nat.zero_add];exact Nat.le_refl _,?_⟩
 rw[List.drop_zero,<-Cu,List.take_length]
def Bps:EV->Nat
 | .int _ x=>x.toNat
 | _=>0
noncomputable def A0u:List Nat:=A8.map Bps
theorem A3l:A8=A0u.map (Nk .u32):=by kernel_rfl
theorem Bem:A0u.all (fun n=>Nat.blt n 4294967296)=true:=by kernel_rfl
theorem Bcx:A0u.length=256:=by kernel_rfl
noncomputable def Asp(r c:Nat):Nat:=(r / 256) ^^^ (A0u[(r % 256) ^^^ c]?).getD 0
theorem Azo {i:Nat}(hi:i<256):A8[i]? = some (Nk .u32 ((A0u[i]?).getD 0))/\(A0u[i]?).getD 0<4294967296:=by
 have hi':i<A0u.length:=by rw[Bcx];exact hi
 rw[A3l,List.getElem?_map,List.getElem?_eq_getElem hi']
 refine⟨rfl,?_⟩
 have:=List.all_eq_true.1 Bem _ (List.getElem_mem hi')
 exact Nat.le_of_ble_eq_true this
theorem Bbw {r c:Nat}(hr:r<4294967296)(hc:c<256):Asp r c<4294967296:=by
 unfold Asp
 have h1:(r % 256) ^^^ c<2 ^ 8:=Nat.xor_lt_two_pow (n:=8) (Nat.mod_lt _ (by decide)) hc
 exact Nat.xor_lt_two_pow (n:=32) (by show r / 256<4294967296;omega) (Azo h1).2
theorem Ba3 {h:Aa}{r c:Nat}(hr:r<4294967296)(hc:c<256):Ok (Oo K Qv (Nk .u32 r) (Nk .u8 c) h) fun v h'=>v=Nk .u32 (Asp r c)/\Ext h h':=by
 unfold Qv
 simp only[Oo,Ab]
 have g3:(h.new (.cells A8 72)).get h.next=some (.cells A8 72):=Ag _ _
 have x1:Ext h (h.new (.cells A8 72)):=A9.new _ _
 generalize h.new (.cells A8 72)=h1 at g3 x1 ⊢
 rw[show ∀ k:EV->R,K3 (bin TT .shr 70) (Nk .u32 r) (.int .u64 8) k=k (Nk .u32 (r / 256)) from fun k=>Aj0 (s:=8) (by decide)]
 have h1':(r % 256) ^^^ c<256:=Nat.xor_lt_two_pow (n:=8) (Nat.mod_lt _ (by decide)) hc
 rw[wrap_u8,A9k (Nat.mod_lt _ (by decide)) hc,show ∀ k:EV->R,Aqu 256 1 (.ptr h.next 0) (Nk .u8 ((r % 256) ^^^ c)) k=k (.ptr h.next (0+((r % 256) ^^^ c)*1)) from fun k=>A2q h1']
 rw[Ck g3 rfl,Nat.zero_add,Nat.mul_one,(Azo h1').1]
 simp only[Ls]
 rw[A1p (by omega) (Azo h1').2]
 exact .ret ⟨rfl,x1⟩
noncomputable def Ani(r:Nat)(l:List Nat):Nat:=l.foldl Asp r
theorem Aoi:∀ (l:List Nat) (r:Nat),r<4294967296->(∀ b ∈ l,b<256)->Ani r l<4294967296
 | [],r,hr,_=>hr
 | c::l,r,hr,hl=>Aoi l (Asp r c) (Bbw hr (hl c (List.mem_cons_self ..))) fun b hb=>hl b (List.mem_cons_of_mem _ hb)
theorem A26 {T b off:Nat}{x:EV}{l:List Nat}(hl:∀ b ∈ l,b<256)(hn:l.length<=5000){r0:Nat}(h0:r0<4294967296):∀ (m i:Nat) (h:Aa),l.length-i<m->i<=l.length->HB h->h.get T=some (.cells A8 72)->Bs h x b off l ->
 Ok (Gk K m (.ptr T 0) (Nk .u32 (Ani r0 (l.take i))) x (I l.length) (I i) h) fun v h'=>v=Nk .u32 (Ani r0 l)/\Ext h h':=by
 intro m
 induction m with
 | zero=>intro i h hm;omega
 | succ m ih=>
  intro i h hm hi hb gT s
  simp only[Gk,I,Ai,Ab]
  by_cases hlt:(i:Int)<l.length
  ·have hin:i<l.length:=by omega
   obtain⟨e1,e2⟩:=s.ix hin
   simp only[hlt,decide_true,Ab,Zm,e1,e2,Fy gT rfl]
   rw[A3 Nw]
   simp only[Ls]
   have htk:∀ b ∈ l.take i,b<256:=fun b hb=>hl b (List.mem_of_mem_take hb)
   refine(Ba3 (K:=K) (Aoi _ _ h0 htk) (hl _ (List.getElem_mem hin))).Al ?_
   rintro _ h1 ⟨rfl,x1⟩
   simp only[Zb,I,Ai]
   rw[C8 (by omega) (by omega)]
   have e:Asp (Ani r0 (l.take i)) l[i]=Ani r0 (l.take (i+1)):=by
    unfold Ani
    rw[List.take_add_one,List.foldl_append,List.getElem?_eq_getElem hin];rfl
   rw[e]
   refine(ih (i+1) h1 (by omega) (by omega) (x1.hb hb) (x1.at hb gT) (s.ext hb x1)).mono ?_
   rintro v h' ⟨e,x2⟩
   exact⟨e,x1.trans x2⟩
  ·have:i=l.length:=by omega
   subst this
   simp only[hlt,decide_false,Ab,Rh,List.take_length]
   exact .ret ⟨rfl,A9.refl _⟩
noncomputable def Gl(l:List Nat):Nat:=Ani 4294967295 l ^^^ 4294967295
theorem A91 {l:List Nat}(hl:∀ b ∈ l,b<256):Gl l<4294967296:=Nat.xor_lt_two_pow (n:=32) (Aoi l _ (by decide) hl) (by decide)
theorem Azc {h:Aa}{x:EV}{b off:Nat}{l:List Nat}(hK:10000<K)(s:Bs h x b off l)(hb:HB h)(hl:∀ b ∈ l,b<256)(hn:l.length<=5000):Ok (Jk K Qv x h) fun v h'=>v=Nk .u32 (Gl l)/\Ext h h':=by
 unfold Qv
 simp only[Jk,Ab]
 have g3:(h.new (.cells A8 72)).get h.next=some (.cells A8 72):=Ag _ _
 have x1:Ext h (h.new (.cells A8 72)):=A9.new _ _
 generalize h.new (.cells A8 72)=h1 at g3 x1 ⊢
 have s1:=s.ext hb x1
 simp only[Yi,s1.E9]
 refine(A26 (K:=K) hl hn (r0:=4294967295) (by decide) K 0 h1 (by omega) (Nat.zero_le _) (x1.hb hb) g3 s1).Al ?_
 rintro _ h2 ⟨rfl,x2⟩
 rw[show ∀ k:EV->R,K3 (bin TT .xor 70) (Nk .u32 (Ani 4294967295 l)) (.int .u32 4294967295) k=k (Nk .u32 (Gl l)) from fun k=>A1p (b:=4294967295) (Aoi l _ (by decide) hl) (by decide)]
 exact .ret ⟨rfl,x1.trans x2⟩
end Go.Ev

namespace Go.Ev
open Go.Proofs
set_option maxRecDepth 100000
variable {K:Nat}
theorem Bu.cells {h:Aa}{s:EV}{q:Nat}{l:List Nat}(r:Bu h s q 5 1 l.length (Dl l)):Ni h 1 l.length s=some (Dl l):=by
 rcases Nat.eq_zero_or_pos l.length with h0|hp
 ·have:l = []:=List.length_eq_zero_iff.1 h0
  subst this
  rcases r with ⟨_,_,rfl|⟨b,rfl⟩⟩|⟨y,_⟩
  ·rfl
  ·rfl
  ·exact absurd y (Nat.lt_irrefl _)
 ·exact(r.bs hp).cells
theorem Aww {h:Aa}{P t q:Nat}{s:EV}{out:List Nat}(g:h.get P=some (.cells [s,.bool false] t))(r:Bu h s q 5 1 out.length (Dl out))(hb:HB h)(ho:out.length<=60000):
 Ok (My K (.ptr P 0) h) fun v h'=>∃ y q',v=.tuple [y,I 0]/\Bu h' y q' 5 1 out.length (Dl out)/\Ext h h'/\HB h'/\(0<out.length->h.next<=q'):=by
 simp only[My,Ab,Ck g rfl,Abp]
 rw[show B5 [(.int .u8 0)] 5 1 0 [] h=some (.slice h.next 0 0 0 false,h.new (.cells [] 5)) from rfl,Bg]
 have x1:Ext h (h.new (.cells [] 5)):=A9.new _ _
 have g1:=x1.at hb g
 have r1:Bu (h.new (.cells [] 5)) s q 5 1 out.length (Dl out):=r.frame fun y=>x1.get _ (hb _ _ (r.block y)) id
 generalize h.new (.cells [] 5)=h1 at x1 g1 r1 ⊢
 simp only[Ab,Ck g1 rfl]
 refine(R4 (b:=h.next) (e:=5) r1.len (by omega) r1.cells (by rw[Cu,Nat.mul_one]) 0).Al ?_
 rintro v h2 ⟨q',r2,x2,l2⟩
 refine .ret ⟨v,q',rfl,r2,x1.trans x2,(x1.trans x2).hb hb,fun y=>?_⟩
 have:=l2 y
 have:=x1.next
 omega
theorem Aqw {h:Aa}{P t:Nat}{out:List Nat}(p:Aro h P t out false)(hb:HB h)(ho:out.length<=60000):
 Ok (My K (.ptr P 0) h) fun v h'=>∃ y q',v=.tuple [y,I 0]/\Bu h' y q' 5 1 out.length (Dl out)/\Ext h h'/\HB h'/\(0<out.length->h.next<=q'):=by
 obtain⟨s,q,g,r,_⟩:=p.Pb
 exact Aww g r hb ho
theorem Br9(s:Nat):Qx 4 s = [s % 256,s / 256 % 256,s / 65536 % 256,s / 16777216 % 256]:=by
 simp[Qx,List.range_succ]
theorem Bhe(a b c d:Int)(h:Aa):B5 [(.int .u8 0)] 5 1 4 [(0,.int .u8 a),(1,.int .u8 b),(2,.int .u8 c),(3,.int .u8 d)] h=some (.slice h.next 0 4 4 false,h.new (.cells [.int .u8 a,.int .u8 b,.int .u8 c,.int .u8 d] 5)):=rfl
theorem Bbp {h:Aa}{x:EV}{b off:Nat}{l:List Nat}(hK:10000<K)(s:Bs h x b off l)(hb:HB h)(hl:∀ b ∈ l,b<256)(h0:0<l.length)(hn:l.length<=5000):
 Ok (Rp K Qv x h) fun v h'=>∃ q',Bu h' v q' 5 1 (l++Qx 4 (Gl l)).length (Dl (l++Qx 4 (Gl l)))/\Ext h h'/\HB h'/\h.next<=q':=by
 unfold Qv
 simp only[Rp,Ab]
 have g3:(h.new (.cells A8 72)).get h.next=some (.cells A8 72):=Ag _ _
 have x1:Ext h (h.new (.cells A8 72)):=A9.new _ _
 generalize h.new (.cells A8 72)=h1 at g3 x1 ⊢
 have hb1:=x1.hb hb
 rw[Fy g3 rfl,A3 Nw]
 simp only[Ls]
 refine(Azc (K:=K) hK (s.ext hb x1) hb1 hl hn).Al ?_
 rintro _ h2 ⟨rfl,x2⟩
 have hb2:=x2.hb hb1
 have s2:=(s.ext hb x1).ext hb1 x2
 rw[show B5 [(.int .u8 0)] 5 1 0 [] h2=some (.slice h2.next 0 0 0 false,h2.new (.cells [] 5)) from rfl,Bg]
 have x3:Ext h2 (h2.new (.cells [] 5)):=A9.new _ _
 have s3:=s2.ext hb2 x3
 have n3:(h2.new (.cells [] 5)).next=h2.next+1:=rfl
 generalize h2.new (.cells [] 5)=h3 at x3 s3 n3 ⊢
 have hb3:=x3.hb hb2
 refine(R4 (b:=h2.next) (e:=5) s3.len (by omega) s3.cells (by rw[Cu,Nat.mul_one]) 0).Al ?_
 rintro v h4 ⟨q',r4,x4,l4⟩
 have hb4:=x4.hb hb3
 rw[show ∀ k:EV->R,Pk .u8 (Nk .u32 (Gl l)) k=k (Nk .u8 (Gl l % 256)) from fun k=>Aoc]
 rw[show ∀ k:EV->R,K3 (bin TT .shr 70) (Nk .u32 (Gl l)) (.int .u64 8) k=k (Nk .u32 (Gl l / 256)) from fun k=>Aj0 (s:=8) (by decide)]
 rw[show ∀ k:EV->R,Pk .u8 (Nk .u32 (Gl l / 256)) k=k (Nk .u8 (Gl l / 256 % 256)) from fun k=>Aoc]
 rw[show ∀ k:EV->R,K3 (bin TT .shr 70) (Nk .u32 (Gl l)) (.int .u64 16) k=k (Nk .u32 (Gl l / 65536)) from fun k=>Aj0 (s:=16) (by decide)]
 rw[show ∀ k:EV->R,Pk .u8 (Nk .u32 (Gl l / 65536)) k=k (Nk .u8 (Gl l / 65536 % 256)) from fun k=>Aoc]
 rw[show ∀ k:EV->R,K3 (bin TT .shr 70) (Nk .u32 (Gl l)) (.int .u64 24) k=k (Nk .u32 (Gl l / 16777216)) from fun k=>Aj0 (s:=24) (by decide)]
 rw[show ∀ k:EV->R,Pk .u8 (Nk .u32 (Gl l / 16777216)) k=k (Nk .u8 (Gl l / 16777216 % 256)) from fun k=>Aoc]
 rw[Bhe,Bg]
 have x5:Ext h4 (h4.new (.cells (Dl (Qx 4 (Gl l))) 5)):=A9.new _ _
 have e5:Dl (Qx 4 (Gl l)) = [Nk .u8 (Gl l % 256),Nk .u8 (Gl l / 256 % 256),Nk .u8 (Gl l / 65536 % 256),Nk .u8 (Gl l / 16777216 % 256)]:=by rw[Br9];rfl
 rw[e5]at x5
 have r5:Bu (h4.new (.cells [Nk .u8 (Gl l % 256),Nk .u8 (Gl l / 256 % 256),Nk .u8 (Gl l / 65536 % 256),Nk .u8 (Gl l / 16777216 % 256)] 5)) v q' 5 1 l.length (Dl l):=r4.frame fun y=>x5.get _ (hb4 _ _ (r4.block y)) id
 have g5:(h4.new (.cells [Nk .u8 (Gl l % 256),Nk .u8 (Gl l / 256 % 256),Nk .u8 (Gl l / 65536 % 256),Nk .u8 (Gl l / 16777216 % 256)] 5)).get h4.next=some (.cells [Nk .u8 (Gl l % 256),Nk .u8 (Gl l / 256 % 256),Nk .u8 (Gl l / 65536 % 256),Nk .u8 (Gl l / 16777216 % 256)] 5):=Ag _ _
 have n5:(h4.new (.cells [Nk .u8 (Gl l % 256),Nk .u8 (Gl l / 256 % 256),Nk .u8 (Gl l / 65536 % 256),Nk .u8 (Gl l / 16777216 % 256)] 5)).next=h4.next+1:=rfl
 generalize h4.new (.cells [Nk .u8 (Gl l % 256),Nk .u8 (Gl l / 256 % 256),Nk .u8 (Gl l / 65536 % 256),Nk .u8 (Gl l / 16777216 % 256)] 5)=h5 at x5 r5 g5 n5 ⊢
 have hc5:Ni h5 1 4 (.slice h4.next 0 4 4 false)=some (Dl (Qx 4 (Gl l))):=by
  show Ut h5 h4.next 0 4=_
  unfold Ut Xt
  rw[g5,e5];rfl
 obtain⟨h6,e6,r6,n6,c6⟩:=Qe r5 rfl (by decide) (by decide) (by omega) hc5 (by rw[Cu,Gu])
 rw[e6,Bg]
 have hq:=l4 h0
 have x16:Ext h h6:=by
  refine((x1.trans x2).trans ((x3.trans x4).trans x5)).then c6 fun j hj hlt=>?_
  have:=x1.next;have:=x2.next;have:=hj.2;omega
 refine .ret ⟨h5.next,?_,x16,x16.hb hb,?_⟩
 ·rw[Auo,List.length_append,Gu];exact r6
 ·have:=x1.next;have:=x2.next;have:=x4.next;omega
theorem Beg {t a b:Nat}(k:EV->R):Ar E5 (bin TT .neq t) (Nk .u8 a) (Nk .u8 b) k=k (.bool (decide (¬ a=b))):=by
 show k (E5 .u8 (Int.ofNat a) (Int.ofNat b))=_
 rw[A1r,Avg,Ajp]
 exact congrArg (fun b=>k (.bool b)) (decide_eq_decide.2 (not_congr ⟨Int.ofNat.inj,congrArg _⟩))
noncomputable def Ap8(l:List Nat):Bool:=decide (Qx 4 (Gl (l.take (l.length-4)))=l.drop (l.length-4))
def Bdi(h:Aa)(l:List Nat)(v:EV)(h':Aa):Prop:=Ext h h'/\HB h'/\((Ap8 l=false/\v=.tuple [.Af,I 11])\/(Ap8 l=true/\∃ y q',v=.tuple [y,I 0]/\Bu h' y q' 5 1 (l.take (l.length-4)).length (Dl (l.take (l.length-4)))/\h.next<=q'))
theorem A3f {x y:EV}{b off off':Nat}{l:List Nat}(h4:4<l.length)(hn:l.length<=5000)(hl:∀ b ∈ l,b<256)(h0:Aa):∀ (m i:Nat) (h:Aa),4-i<m->i<=4->HB h->Ext h0 h->Bs h x b off l->Bs h y b off' (l.drop (l.length-4))->(∀ j (hj:j<i),(l.drop (l.length-4))[j]? = some (Gl (l.take (l.length-4)) / 256 ^ j % 256)) ->
 Ok (Gf K m x (I ((l.length-4:Nat):Int)) (Nk .u32 (Gl (l.take (l.length-4)) / 256 ^ i)) y (I 4) (I i) h) (Bdi h0 l):=by
 intro m
 have hd:(l.drop (l.length-4)).length=4:=by rw[List.length_drop];omega
 have hs:=A91 (l:=l.take (l.length-4)) fun b hb=>hl b (List.mem_of_mem_take hb)
 induction m with
 | zero=>intro i h hm;omega
 | succ m ih=>
  intro i h hm hi hb x0 sx sy hj
  simp only[Gf,I,Ai,Ab]
  by_cases hlt:(i:Int)<4
  ·have hin:i<(l.drop (l.length-4)).length:=by omega
   obtain⟨e1,e2⟩:=sy.ix hin
   simp only[hlt,decide_true,Ab,Zc,e1,e2]
   rw[wrap_u8]
   rw[Beg]
   by_cases hc:(l.drop (l.length-4))[i]=Gl (l.take (l.length-4)) / 256 ^ i % 256
   ·simp only[hc,not_true_eq_false,decide_false,Ab,Y6]
    rw[show ∀ k:EV->R,K3 (bin TT .shr 70) (Nk .u32 (Gl (l.take (l.length-4)) / 256 ^ i)) (.int .u64 8) k=k (Nk .u32 (Gl (l.take (l.length-4)) / 256 ^ i / 256)) from fun k=>Aj0 (s:=8) (by decide)]
    simp only[Zt,I,Ai]
    rw[C8 (by omega) (by omega),Nat.div_div_eq_div_mul,<-Nat.pow_succ]
    refine ih (i+1) h (by omega) (by omega) hb x0 sx sy fun j hj'=>?_
    by_cases hji:j=i
    ·subst hji;rw[List.getElem?_eq_getElem hin,hc]
    ·exact hj j (by omega)
   ·simp only[hc,not_false_eq_true,decide_true,Ab]
    refine .ret ⟨x0,hb,.inl ⟨decide_eq_false fun y=>hc ?_,rfl⟩⟩
    have:=congrArg (fun z=>z[i]?) y
    simp only[Qx]at this
    rw[List.getElem?_eq_getElem hin,List.getElem?_map,List.getElem?_range (by omega)]at this
    exact(Option.some.inj this).symm
  ·have:i=4:=by omega
   subst this
   simp only[hlt,decide_false,Ab,Ra]
   have ho:Ap8 l=true:=decide_eq_true (by
    apply List.ext_getElem?
    intro j
    by_cases hj4:j<4
    ·rw[hj j hj4];unfold Qx;rw[List.getElem?_map,List.getElem?_range hj4];rfl
    ·rw[List.getElem?_eq_none (by rw[Gu];omega),List.getElem?_eq_none (by omega)])
   rw[show B5 [(.int .u8 0)] 5 1 0 [] h=some (.slice h.next 0 0 0 false,h.new (.cells [] 5)) from rfl,Bg]
   have x3:Ext h (h.new (.cells [] 5)):=A9.new _ _
   have s3:=sx.ext hb x3
   have n3:(h.new (.cells [] 5)).next=h.next+1:=rfl
   generalize h.new (.cells [] 5)=h3 at x3 s3 n3 ⊢
   have hb3:=x3.hb hb
   obtain⟨w,e3,s4⟩:=s3.take (n:=l.length-4) (by omega)
   rw[e3]
   refine(R4 (b:=h.next) (e:=5) s4.len (by rw[List.length_take];omega) s4.cells (by rw[Cu,Nat.mul_one]) 0).Al ?_
   rintro v h4' ⟨q',r4,x4,l4⟩
   refine .ret ⟨x0.trans (x3.trans x4),x4.hb hb3,.inr ⟨ho,v,q',rfl,r4,?_⟩⟩
   have:=l4 (by rw[List.length_take];omega)
   have:=x0.next
   omega
theorem Bb2 {h:Aa}{b off r:Nat}{op:Bool}{l:List Nat}(hK:10000<K)(s:Bs h (.slice b off l.length r op) b off l)(hb:HB h)(hl:∀ b ∈ l,b<256)(h4:4<l.length)(hn:l.length<=5000):
 Ok (Rc K Qv (.slice b off l.length r op) h) (Bdi h l):=by
 unfold Qv
 simp only[Rc,Ab]
 have g3:(h.new (.cells A8 72)).get h.next=some (.cells A8 72):=Ag _ _
 have x1:Ext h (h.new (.cells A8 72)):=A9.new _ _
 generalize h.new (.cells A8 72)=h1 at g3 x1 ⊢
 have hb1:=x1.hb hb
 have s1:=s.ext hb x1
 have l3:=hb1 _ _ g3
 simp only[Ai]
 rw[C8 (by omega) (by omega),show (l.length:Int)-4=((l.length-4:Nat):Int) by omega,show decide (((l.length-4:Nat):Int)<0)=false from decide_eq_false (by omega)]
 simp only[Ab,Z2,A4 l3,Bz,Fy g3 rfl,A3 Nw]
 obtain⟨w,e3,s4⟩:=s1.take (n:=l.length-4) (by omega)
 rw[e3]
 refine Ok.Cs (by kernel_rfl) (by kernel_rfl) (Azc (K:=K) hK s4.lift (F0 hb1) (fun b hb=>hl b (List.mem_of_mem_take hb)) (by rw[List.length_take];omega)) (fun _ _ p=>p.2) ?_
 rintro _ h2 h3 ⟨rfl,_⟩ sm x3
 have hb3:=x3.hb hb1
 obtain⟨e5,s5⟩:=(s1.ext hb1 x3).drop (n:=l.length-4) (by omega)
 rw[e5]
 simp only[Ab]
 have:=A3f (K:=K) (x:=.slice b off l.length r op) h4 hn hl h K 0 h3 (by omega) (by decide) hb3 (x1.trans x3) (s1.ext hb1 x3) s5 (fun j hj=>absurd hj (Nat.not_lt_zero _))
 rw[Nat.pow_zero,Nat.div_one]at this
 rw[show l.length-(l.length-4)=4 by omega]at this ⊢
 exact this
end Go.Ev

namespace Go.Ev
open Go.Proofs
set_option maxRecDepth 100000
variable {K:Nat}
structure Rd(h:Aa)(R q off:Nat)(l:List Nat):Prop where
 Pb:∃ s,h.get R=some (.cells [s,.bool false] 316)/\lenOf s=some l.length/\(0<l.length->s=.slice q off l.length l.length true/\Bs h s q off l)
 ne:q<R
theorem Rd.ext {h h':Aa}{R q off:Nat}{l:List Nat}(d:Rd h R q off l)(hb:HB h)(c:Ext h h'):Rd h' R q off l:=by
 obtain⟨s,g,e,f⟩:=d.Pb
 exact⟨⟨s,c.at hb g,e,fun y=>⟨(f y).1,(f y).2.ext hb c⟩⟩,d.ne⟩
theorem Ajk {h:Aa}{x:EV}{b off:Nat}{l:List Nat}(s:Bs h x b off l)(hb:HB h)(h0:0<l.length)(hn:l.length<=5000):
 Ok (Tf K x h) fun v h'=>∃ R q,v=.ptr R 0/\Rd h' R q 0 l/\Ext h h'/\HB h'/\h.next<=q:=by
 simp only[Tf]
 rw[show B5 [(.int .u8 0)] 5 1 0 [] h=some (.slice h.next 0 0 0 false,h.new (.cells [] 5)) from rfl,Bg]
 have x1:Ext h (h.new (.cells [] 5)):=A9.new _ _
 have s1:=s.ext hb x1
 generalize h.new (.cells [] 5)=h1 at x1 s1 ⊢
 have hb1:=x1.hb hb
 refine(R4 (b:=h.next) (e:=5) s1.len (by omega) s1.cells (by rw[Cu,Nat.mul_one]) 0).Al ?_
 rintro v h2 ⟨q',r2,x2,l2⟩
 have hb2:=x2.hb hb1
 have hsl:=r2.slice h0
 subst hsl
 rw[B6 (l:=[.slice q' 0 l.length l.length true,.bool false]) rfl]
 simp only[Ab]
 have x3:Ext h2 (h2.new (.cells [.slice q' 0 l.length l.length true,.bool false] 316)):=A9.new _ _
 have bb:=(r2.bs h0).ext hb2 x3
 refine .ret ⟨h2.next,q',rfl,⟨⟨_,Ag _ _,rfl,fun _=>⟨rfl,bb⟩⟩,hb2 _ _ (r2.block h0)⟩,x1.trans (x2.trans x3),x3.hb hb2,?_⟩
 have:=l2 h0
 have:=x1.next
 omega
theorem Ax0 {h:Aa}{R q off n:Nat}{l:List Nat}(d:Rd h R q off l)(hb:HB h)(h0:0<n)(hn:n<=l.length):
 Ok (Hr K (.ptr R 0) (I n) h) fun v h'=>Bs h' v q off (l.take n)/\Rd h' R q (off+n) (l.drop n)/\A9 (fun i=>i=R) h h'/\HB h':=by
 obtain⟨s,g,e,f⟩:=d.Pb
 obtain⟨rfl,s1⟩:=f (by omega)
 have lR:=hb _ _ g
 have hne:R ≠ q:=by have:=d.ne;omega
 simp only[Hr,Ab,Ck g rfl,Ai,I]
 rw[show decide ((n:Int)<0)=false from decide_eq_false (by omega)]
 simp only[Ab,N3,Ai,Ck g rfl]
 rw[show decide ((l.length:Int)<(n:Int))=false from decide_eq_false (by omega)]
 simp only[Ab,Ot,U6,Ck g rfl]
 have e1:∀ k:EV->Go.Ev.R,Wz 1 (.slice q off l.length l.length true) none (some (.int .i64 (n:Int))) (some (.int .i64 (n:Int))) k=k (.slice q off n n false):=fun k=>by
  have:slc (.slice q off l.length l.length true) 1 none (some (.int .i64 (n:Int))) (some (.int .i64 (n:Int)))=some (.slice q off n n false):=by
   have b1:bound (some (.int .i64 (n:Int))) l.length 0=some n:=by
    show Ay (Nat.ble n l.length) (some n) none=_
    rw[Nat.ble_eq_true_of_le hn,An]
   have b2:bound (some (.int .i64 (n:Int))) n 0=some n:=by
    show Ay (Nat.ble n n) (some n) none=_
    rw[Nat.ble_eq_true_of_le (Nat.le_refl _),An]
   unfold slc
   simp only[b1,b2]
   show some (EV.slice q (Ay (Nat.beq n 0) off (Nat.add off (Nat.mul 0 1))) n n false)=_
   rw[show Nat.add off (Nat.mul 0 1)=off from rfl]
   cases Nat.beq n 0 <;> rfl
  unfold Wz;rw[this];rfl
 rw[e1]
 obtain⟨r',op',o,row,f1,f0,f2,f3,f4,f5⟩:=s1.Pb
 have htl:(l.take n).length=n:=by rw[List.length_take,Nat.min_eq_left hn]
 have hdl:(l.drop n).length=l.length-n:=List.length_drop
 have bt:Bs h (.slice q off n n false) q off (l.take n):=by
  refine⟨n,false,o,row,by rw[htl],by rw[htl];exact Nat.le_refl _,f2,f3,by rw[htl];omega,?_⟩
  rw[htl]
  have:=congrArg (fun z=>z.take n) f5
  simp only[List.take_take,Nat.min_eq_left hn]at this
  rw[this];unfold Dl;rw[List.map_take]
 have put:∀ w:EV,(h.put R (.cells [w,.bool false] 316)).get q=h.get q:=fun w=>As _ hne
 rcases Nat.lt_or_ge n l.length with hlt|hge
 ·obtain⟨e2,s2⟩:=s1.drop hlt
  rw[e2]
  refine Ok.st1 g rfl rfl (by show 0<2;decide) ?_
  refine .ret ⟨bt.frame (put _),⟨⟨_,Aj _ _ _,by rw[hdl];rfl,fun _=>⟨by rw[hdl],s2.frame (put _)⟩⟩,d.ne⟩,(A9.refl (S:=fun i=>i=R) h).A5 (.inl rfl) lR _,hb.put lR _⟩
 ·have hnl:n=l.length:=by omega
  subst hnl
  have e2:∀ k:EV->Go.Ev.R,Wz 1 (.slice q off l.length l.length true) (some (.int .i64 (l.length:Int))) none none k=k (.tail q (off+l.length) off):=fun k=>by
   have:slc (.slice q off l.length l.length true) 1 (some (.int .i64 (l.length:Int))) none none=some (.tail q (off+l.length) off):=by
    have b1:bound (some (.int .i64 (l.length:Int))) l.length 0=some l.length:=by
     show Ay (Nat.ble l.length l.length) (some l.length) none=_
     rw[Nat.ble_eq_true_of_le (Nat.le_refl _),An]
    have b2:bound none l.length l.length=some l.length:=rfl
    unfold slc
    simp only[b1,b2]
    rw[An]
    have z1:Nat.beq l.length 0=false:=by
     cases hq:Nat.beq l.length 0 with
     | false=>rfl
     | true=>have:=Nat.eq_of_beq_eq_true hq;omega
    have z2:Nat.ble (Nat.succ l.length) l.length=false:=by
     cases hq:Nat.ble (Nat.succ l.length) l.length with
     | false=>rfl
     | true=>have:=Nat.le_of_ble_eq_true hq;omega
    rw[z1,A6,z2,A6,Nat.beq_refl,An,An,show Nat.mul l.length 1=l.length from Nat.mul_one _]
    rfl
   unfold Wz;rw[this];rfl
  rw[e2]
  refine Ok.st1 g rfl rfl (by show 0<2;decide) ?_
  refine .ret ⟨bt.frame (put _),⟨⟨_,Aj _ _ _,by rw[hdl,Nat.sub_self];rfl,fun y=>by rw[hdl,Nat.sub_self]at y;exact absurd y (Nat.lt_irrefl _)⟩,d.ne⟩,(A9.refl (S:=fun i=>i=R) h).A5 (.inl rfl) lR _,hb.put lR _⟩
def Nc:List Nat->Nat
 | []=>0
 | b::r=>b+256*Nc r
theorem Ava:∀ (a:List Nat) (b:Nat),Nc (a++[b])=Nc a+256 ^ a.length*b
 | [],b=>by simp[Nc]
 | x::a,b=>by
  have:=Ava a b
  simp only[List.cons_append,Nc,this,List.length_cons,Nat.pow_succ]
  rw[Nat.mul_add,<-Nat.add_assoc,Nat.mul_comm (256 ^ a.length) 256,Nat.mul_assoc]
theorem A0y:∀ (a:List Nat),(∀ b ∈ a,b<256)->Nc a<256 ^ a.length
 | [],_=>by simp[Nc]
 | x::a,h=>by
  have h1:=h x (List.mem_cons_self ..)
  have h2:=A0y a fun b hb=>h b (List.mem_cons_of_mem _ hb)
  simp only[Nc,List.length_cons,Nat.pow_succ]
  omega
theorem wrap_u64(a:Nat):Dk .u64 (Int.ofNat a)=Int.ofNat (a % 18446744073709551616):=by
 rw[Lf]
 rfl
theorem Bck {t a s:Nat}(hs:s<=64)(hb:a*2 ^ s<9223372036854775808){k:EV->Go.Ev.R}:K3 (bin TT .shl t) (.int .i64 (Int.ofNat a)) (.int .u64 (Int.ofNat s)) k=k (Nk .i64 (a*2 ^ s)):=by
 show k (.int .i64 (Dk .i64 (Int.mul (.ofNat a) (.ofNat (Nat.pow 2 (Ay (Nat.ble s 64) s 64))))))=_
 rw[Nat.ble_eq_true_of_le hs,An]
 have:Int.mul (.ofNat a) (.ofNat (Nat.pow 2 s))=((a*2 ^ s:Nat):Int):=rfl
 rw[this,C8 (by omega) (by omega)];rfl
theorem Bed {t a b:Nat}(h:a ||| b<9223372036854775808){k:EV->Go.Ev.R}:K3 (bin TT .or t) (.int .i64 (Int.ofNat a)) (.int .i64 (Int.ofNat b)) k=k (Nk .i64 (a ||| b)):=by
 show k (.int .i64 (Dk .i64 (.ofNat (Nat.lor a b))))=_
 have:Int.ofNat (Nat.lor a b)=((a ||| b:Nat):Int):=rfl
 rw[this,C8 (by omega) (by omega)];rfl
theorem A63 {b off:Nat}{x:EV}{l:List Nat}(hl:∀ b ∈ l,b<256)(h7:l.length<=7):∀ (m i:Nat) (h:Aa),l.length-i<m->i<=l.length->Bs h x b off l ->
 Ew K m (Nk .i64 (Nc (l.take i))) x (I l.length) (I i) h=some (Nk .i64 (Nc l),h):=by
 intro m
 induction m with
 | zero=>intro i h hm;omega
 | succ m ih=>
  intro i h hm hi s
  simp only[Ew,I,Ai,Ab]
  by_cases hlt:(i:Int)<l.length
  ·have hin:i<l.length:=by omega
   obtain⟨e1,e2⟩:=s.ix hin
   have hb:=hl _ (List.getElem_mem hin)
   simp only[hlt,decide_true,Ab,Vy,e1,e2,Ai]
   have hp:(256:Nat) ^ i=2 ^ (8*i):=by rw[Nat.pow_mul]
   have hp6:(256:Nat) ^ i<=256 ^ 6:=Nat.pow_le_pow_right (by decide) (by omega)
   have hp6:(256:Nat) ^ i<=281474976710656:=hp6
   have hmul:l[i]*256 ^ i<=255*281474976710656:=Nat.mul_le_mul (by omega) hp6
   rw[show Dk .i64 (Int.ofNat l[i])=Int.ofNat l[i] from C8 (by show _<=((l[i]:Nat):Int);omega) (by show ((l[i]:Nat):Int)<=_;omega)]
   rw[show (8:Int)*(i:Int)=((8*i:Nat):Int) by omega,C8 (by omega) (by omega)]
   rw[show Dk .u64 ((8*i:Nat):Int)=Int.ofNat (8*i) from by have:=wrap_u64 (8*i);rw[Nat.mod_eq_of_lt (by omega)]at this;exact this]
   rw[Bck (by omega) (by rw[<-hp];omega)]
   have ht:(l.take i).length=i:=by rw[List.length_take,Nat.min_eq_left hi]
   have hlow:Nc (l.take i)<2 ^ (8*i):=by
    have:=A0y (l.take i) fun b hb=>hl b (List.mem_of_mem_take hb)
    rw[ht,hp]at this
    exact this
   have hor:Nc (l.take i) ||| l[i]*2 ^ (8*i)=Nc (l.take (i+1)):=by
    rw[List.take_add_one,List.getElem?_eq_getElem hin]
    show _=Nc (l.take i++[l[i]])
    rw[Ava,ht,Nat.or_comm,Nat.mul_comm l[i],<-Nat.two_pow_add_eq_or_of_lt hlow,hp,Nat.add_comm]
   have hlt7:Nc (l.take (i+1))<9223372036854775808:=by
    have:=A0y (l.take (i+1)) fun b hb=>hl b (List.mem_of_mem_take hb)
    have h2:(256:Nat) ^ (l.take (i+1)).length<=256 ^ 7:=Nat.pow_le_pow_right (by decide) (by rw[List.length_take];omega)
    have h3:(256:Nat) ^ 7=72057594037927936:=by decide
    omega
   rw[Bed (by rw[hor];exact hlt7),hor]
   simp only[V9,I,Ai]
   rw[C8 (by omega) (by omega)]
   exact ih (i+1) h (by omega) (by omega) s
  ·have:i=l.length:=by omega
   subst this
   simp only[hlt,decide_false,Ab,Pn,List.take_length]
theorem Tu {h:Aa}{R q off w:Nat}{l:List Nat}(d:Rd h R q off l)(hb:HB h)(hK:1000<K)(h1:1<=w)(h7:w<=7)(hn:w<=l.length)(hl:∀ b ∈ l,b<256):
 Ok (Bo K (.ptr R 0) (I w) h) fun v h'=>v=Nk .i64 (Nc (l.take w))/\Rd h' R q (off+w) (l.drop w)/\A9 (fun i=>i=R) h h'/\HB h':=by
 simp only[Bo]
 rw[Adw,decide_eq_true ⟨by omega,by omega⟩]
 simp only[Ab,Wl]
 refine(Ax0 (K:=K) d hb h1 hn).Al ?_
 rintro v h2 ⟨s,d2,c2,hb2⟩
 rw[s.E9]
 have ht:(l.take w).length=w:=by rw[List.length_take,Nat.min_eq_left hn]
 have:=A63 (K:=K) (l:=l.take w) (fun b hb=>hl b (List.mem_of_mem_take hb)) (by omega) K 0 h2 (by omega) (Nat.zero_le _) s
 rw[show EV.int .i64 0=Nk .i64 (Nc ((l.take w).take 0)) from rfl]
 exact⟨_,_,this,rfl,d2,c2,hb2⟩
theorem Bap {h:Aa}{R q off n:Nat}{l:List Nat}(d:Rd h R q off l)(hb:HB h)(h0:0<n)(hn:n<=l.length):
 Ok (Mk K (.ptr R 0) (I n) h) fun v h'=>Bs h' v q off (l.take n)/\Rd h' R q (off+n) (l.drop n)/\A9 (fun i=>i=R) h h'/\HB h':=by
 simp only[Mk]
 refine(Ax0 (K:=K) d hb h0 hn).Al ?_
 intro v h2 p
 exact .ret p
theorem Ba7 {h:Aa}{R q off:Nat}(d:Rd h R q off []):Nr K (.ptr R 0) h=some (I 0,h):=by
 obtain⟨s,g,e,f⟩:=d.Pb
 simp only[Nr,Ab,Ck g rfl,Ai]
 have:∀ k:EV->Go.Ev.R,E9 s k=k (I 0):=fun k=>by unfold E9;rw[e];rfl
 rw[this]
 simp only[I,Ai]
 rfl
end Go.Ev

namespace Go.Ev
open Go.Proofs
set_option maxRecDepth 100000
variable {K:Nat}
structure Fr where
 kind:Int
 A7:Int
 off:Int
 Ax:Int
 seq:Int
 body:List Nat
def Fr.cells(f:Fr):List EV:=[I f.kind,I f.A7,I f.off,I f.Ax,I f.seq]++Dl f.body
structure Fr.Wf(f:Fr):Prop where
 len:f.body.length=44
 u8:∀ b ∈ f.body,b<256
def frB(f:Fr):Bool:=wi f.kind 1 5 && (wi f.A7 0 65535 && (wi f.off 0 65535 && (wi f.Ax 1 4294967295 && wi f.seq 0 281474976710655)))
theorem Mw(n a b:Int)(h:Aa):Ke K (.int .i64 n) (.int .i64 a) (.int .i64 b) h=some (.bool (wi n a b),h):=by
 simp only[Ke,Ai,Ab]
 by_cases h1:a<=n
 ·simp only[h1,decide_true,Ab,Ai,Qb,wi,Bool.true_and]
 ·simp only[h1,decide_false,Ab,Qb,wi,Bool.false_and]
theorem Fr.Ce {f:Fr}(w:f.Wf):f.cells.length=49:=by
 unfold Fr.cells;rw[List.length_append,Cu,w.len];rfl
theorem Yp {h:Aa}(f:Fr):Ok (I2 K (.agg f.cells) h) fun v h'=>v=.bool (frB f)/\Ext h h':=by
 simp only[I2,Ab]
 have x1:Ext h (h.new (.cells f.cells 120)):=A9.new _ _
 have g1:(h.new (.cells f.cells 120)).get h.next=some (.cells f.cells 120):=Ag _ _
 generalize h.new (.cells f.cells 120)=h1 at x1 g1 ⊢
 have l0:f.cells[0]? = some (I f.kind):=rfl
 have l1:f.cells[1]? = some (I f.A7):=rfl
 have l2:f.cells[2]? = some (I f.off):=rfl
 have l3:f.cells[3]? = some (I f.Ax):=rfl
 have l4:f.cells[4]? = some (I f.seq):=rfl
 simp only[Ck g1 rfl,Ab,l0,I,Mw,Ai]
 unfold frB
 cases wi f.kind 1 5 with
 | false=>simp only[Ab,J9,Il,G6,Fo,Ai];exact .ret ⟨rfl,x1⟩
 | true=>
 simp only[Ab,Ck g1 rfl,l1,I,Mw,Ai,J9]
 cases wi f.A7 0 65535 with
 | false=>simp only[Ab,Il,G6,Fo,Ai];exact .ret ⟨rfl,x1⟩
 | true=>
 simp only[Ab,Ck g1 rfl,l2,I,Mw,Ai,Il]
 cases wi f.off 0 65535 with
 | false=>simp only[Ab,G6,Fo,Ai];exact .ret ⟨rfl,x1⟩
 | true=>
 simp only[Ab,Ck g1 rfl,l3,I,Mw,Ai,G6]
 cases wi f.Ax 1 4294967295 with
 | false=>simp only[Ab,Fo,Ai];exact .ret ⟨rfl,x1⟩
 | true=>
 simp only[Ab,Ck g1 rfl,l4,I,Mw,Ai,Fo]
 exact .ret ⟨by simp only[Bool.true_and],x1⟩
def Ama(f:Fr):List Nat:=Qx 1 f.kind.toNat++Qx 1 1++Qx 2 f.A7.toNat++Qx 2 f.off.toNat++Qx 4 f.Ax.toNat++Qx 6 f.seq.toNat++f.body
noncomputable def Ii(f:Fr):List Nat:=Ama f++Qx 4 (Gl (Ama f))
theorem Vp(w a:Nat):∀ b ∈ Qx w a,b<256:=fun b hb=>by
 unfold Qx at hb
 obtain⟨i,_,rfl⟩:=List.mem_map.1 hb
 exact Nat.mod_lt _ (by decide)
theorem Aba {f:Fr}(w:f.Wf):(Ama f).length=60:=by
 unfold Ama;simp only[List.length_append,Gu,w.len]
theorem U4 {f:Fr}(w:f.Wf):(Ii f).length=64:=by
 unfold Ii;rw[List.length_append,Aba w,Gu]
theorem A20 {f:Fr}(w:f.Wf):∀ b ∈ Ama f,b<256:=fun b hb=>by
 unfold Ama at hb
 simp only[List.mem_append]at hb
 rcases hb with (((((hb|hb)|hb)|hb)|hb)|hb)|hb
 ·exact Vp _ _ b hb
 ·exact Vp _ _ b hb
 ·exact Vp _ _ b hb
 ·exact Vp _ _ b hb
 ·exact Vp _ _ b hb
 ·exact Vp _ _ b hb
 ·exact w.u8 b hb
theorem Avy {f:Fr}(w:f.Wf):∀ b ∈ Ii f,b<256:=fun b hb=>by
 unfold Ii at hb
 rcases List.mem_append.1 hb with hb|hb
 ·exact A20 w b hb
 ·exact Vp _ _ b hb
theorem Re {w:Nat}{v b:Int}(h0:0<=v)(hb:v<=b)(hw:b<(256 ^ w:Nat)):fits w v=true:=decide_eq_true ⟨h0,by omega⟩
theorem An0 {h:Aa}{f:Fr}(w:f.Wf)(hr:frB f=true)(hb:HB h)(hK:10000<K):
 Ok (Xh K Qv (.agg f.cells) h) fun v h'=>v=.tuple [.agg (Dl (Ii f)),I 0]/\Ext h h':=by
 have hr':=hr
 simp only[frB,Bool.and_eq_true]at hr'
 obtain⟨r1,r2,r3,r4,r5⟩:=hr'
 obtain⟨a1,b1⟩:=Ie.1 r1
 obtain⟨a2,b2⟩:=Ie.1 r2
 obtain⟨a3,b3⟩:=Ie.1 r3
 obtain⟨a4,b4⟩:=Ie.1 r4
 obtain⟨a5,b5⟩:=Ie.1 r5
 have l0:f.cells[0]? = some (I f.kind):=rfl
 have l1:f.cells[1]? = some (I f.A7):=rfl
 have l2:f.cells[2]? = some (I f.off):=rfl
 have l3:f.cells[3]? = some (I f.Ax):=rfl
 have l4:f.cells[4]? = some (I f.seq):=rfl
 have hfl:=Fr.Ce w
 unfold Qv
 simp only[Xh,Ab]
 have x1:Ext h (((h.new (.cells A8 72)).new (.cells f.cells 120)).new (.cells Pu 103)):=((A9.new _ _).Fp _).Fp _
 have g2:(((h.new (.cells A8 72)).new (.cells f.cells 120)).new (.cells Pu 103)).get h.next=some (.cells A8 72):=by
  rw[Bd _ (by show h.next<h.next+1+1;omega),Bd _ (Nat.lt_succ_self _)];exact Ag _ _
 have g3:(((h.new (.cells A8 72)).new (.cells f.cells 120)).new (.cells Pu 103)).get (h.next+1)=some (.cells f.cells 120):=by
  rw[Bd _ (by show h.next+1<h.next+1+1;omega)];exact Ag _ _
 have g4:(((h.new (.cells A8 72)).new (.cells f.cells 120)).new (.cells Pu 103)).get (h.next+2)=some (.cells Pu 103):=Ag _ _
 have n1:(((h.new (.cells A8 72)).new (.cells f.cells 120)).new (.cells Pu 103)).next=h.next+3:=rfl
 rw[show (h.new (.cells A8 72)).next=h.next+1 from rfl,show ((h.new (.cells A8 72)).new (.cells f.cells 120)).next=h.next+2 from rfl,show List.replicate 64 (EV.int .u8 0)=Pu from rfl]
 generalize ((h.new (.cells A8 72)).new (.cells f.cells 120)).new (.cells Pu 103)=h1 at x1 g2 g3 g4 n1 ⊢
 have hb1:=x1.hb hb
 rw[Fy g3 rfl,A3 hfl]
 simp only[Ls]
 refine(Yp (K:=K) f).Al ?_
 rintro _ h2 ⟨rfl,x2⟩
 rw[hr]
 simp only[Ab,Adi]
 have hb2:=x2.hb hb1
 have x12:=x1.trans x2
 have g2:=x2.at hb1 g2
 have g3:=x2.at hb1 g3
 have g4:=x2.at hb1 g4
 have n2:h.next+3<=h2.next:=by have:=x2.next;omega
 have p0:Aro (h2.new (.cells [.Af,.bool false] 278)) h2.next 278 [] false:=⟨.Af,0,Ag _ _,.nil _ _ _ _,fun y=>absurd y (Nat.lt_irrefl _)⟩
 have x3:Ext h2 (h2.new (.cells [.Af,.bool false] 278)):=A9.new _ _
 have g2:=x3.at hb2 g2
 have g3:=x3.at hb2 g3
 have g4:=x3.at hb2 g4
 have hb3:=x3.hb hb2
 have x13:=x12.trans x3
 generalize h2.new (.cells [.Af,.bool false] 278)=h3 at p0 x3 g2 g3 g4 hb3 x13 ⊢
 generalize hP:h2.next=P at p0 n2 ⊢
 have up:∀ {ha hc:Aa},Ext h ha->A9 (fun i=>P<=i) ha hc->Ext h hc:=fun x c=>x.then c fun j hj hl=>by
  have hj:P<=j:=hj
  omega
 have lo:∀ {ha hc:Aa} {i:Nat} {o:C7},A9 (fun i=>P<=i) ha hc->HB ha->ha.get i=some o->i<P->hc.get i=some o:=fun c hb g hi=>c.at hb g (by omega)
 simp only[Ck g3 rfl,l0]
 simp only[Ls]
 refine(Jr (K:=K) (w:=1) (by omega) p0 hb3 (by simp) (by decide) (by decide) (v:=f.kind) (by omega)).Al ?_
 rintro _ h5 ⟨p,c,hb5⟩
 rw[Re (b:=5) (by omega) b1 (by decide),if_pos rfl]at p
 have x5:=up x13 c
 have g2:=lo c hb3 g2 (by omega)
 have g3:=lo c hb3 g3 (by omega)
 have g4:=lo c hb3 g4 (by omega)
 refine(Jr (K:=K) (w:=1) (by omega) p hb5 (by simp[Gu]) (by decide) (by decide) (v:=1) (by omega)).Al ?_
 rintro _ h6 ⟨p,c,hb6⟩
 rw[Re (b:=1) (by omega) (Int.le_refl _) (by decide),if_pos rfl]at p
 have x6:=up x5 c
 have g2:=lo c hb5 g2 (by omega)
 have g3:=lo c hb5 g3 (by omega)
 have g4:=lo c hb5 g4 (by omega)
 simp only[Ab,Ck g3 rfl,l1]
 refine(Jr (K:=K) (w:=2) (by omega) p hb6 (by simp[Gu]) (by decide) (by decide) (v:=f.A7) (by omega)).Al ?_
 rintro _ h7 ⟨p,c,hb7⟩
 rw[Re (b:=65535) a2 b2 (by decide),if_pos rfl]at p
 have x7:=up x6 c
 have g2:=lo c hb6 g2 (by omega)
 have g3:=lo c hb6 g3 (by omega)
 have g4:=lo c hb6 g4 (by omega)
 simp only[Ab,Ck g3 rfl,l2]
 refine(Jr (K:=K) (w:=2) (by omega) p hb7 (by simp[Gu]) (by decide) (by decide) (v:=f.off) (by omega)).Al ?_
 rintro _ h8 ⟨p,c,hb8⟩
 rw[Re (b:=65535) a3 b3 (by decide),if_pos rfl]at p
 have x8:=up x7 c
 have g2:=lo c hb7 g2 (by omega)
 have g3:=lo c hb7 g3 (by omega)
 have g4:=lo c hb7 g4 (by omega)
 simp only[Ab,Ck g3 rfl,l3]
 refine(Jr (K:=K) (w:=4) (by omega) p hb8 (by simp[Gu]) (by decide) (by decide) (v:=f.Ax) (by omega)).Al ?_
 rintro _ h9 ⟨p,c,hb9⟩
 rw[Re (b:=4294967295) (by omega) b4 (by decide),if_pos rfl]at p
 have x9:=up x8 c
 have g2:=lo c hb8 g2 (by omega)
 have g3:=lo c hb8 g3 (by omega)
 have g4:=lo c hb8 g4 (by omega)
 simp only[Ab,Ck g3 rfl,l4]
 refine(Jr (K:=K) (w:=6) (by omega) p hb9 (by simp[Gu]) (by decide) (by decide) (v:=f.seq) (by omega)).Al ?_
 rintro _ h10 ⟨p,c,hb10⟩
 rw[Re (b:=281474976710655) a5 b5 (by decide),if_pos rfl]at p
 have x10:=up x9 c
 have g2:=lo c hb9 g2 (by omega)
 have g3:=lo c hb9 g3 (by omega)
 have g4:=lo c hb9 g4 (by omega)
 try simp only[Ab]
 rw[show ∀ k:EV->R,Pe 44 1 (.ptr (h.next+1) 5) none none none k=k (.slice (h.next+1) 5 44 44 false) from fun k=>rfl]
 have hcb:Ni h10 1 44 (.slice (h.next+1) 5 44 44 false)=some (Dl f.body):=by
  show Ut h10 (h.next+1) 5 44=_
  unfold Ut Xt
  rw[g3]
  show Nf f.cells 5 44=_
  rw[Hx (by rw[hfl];decide)]
  show some (List.take 44 (Dl f.body))=_
  rw[List.take_of_length_le (by rw[Cu,w.len];decide)]
 refine(Akd (K:=K) (n:=44) p hb10 (by simp[Gu]) rfl (by decide) (by decide) hcb w.len).Al ?_
 rintro _ h11 ⟨p,c,hb11⟩
 have x11:=up x10 c
 have g2:=lo c hb10 g2 (by omega)
 have g4:=lo c hb10 g4 (by omega)
 have ep:([]++Qx 1 f.kind.toNat++Qx 1 (1:Int).toNat++Qx 2 f.A7.toNat++Qx 2 f.off.toNat++Qx 4 f.Ax.toNat++Qx 6 f.seq.toNat++f.body)=Ama f:=by
  unfold Ama;rw[List.nil_append];rfl
 have ebad:∀ b:Bool,(b || !true)=b:=by decide
 rw[ep]at p
 simp only[ebad]at p
 refine(Aqw (K:=K) p hb11 (by rw[Aba w];decide)).Al ?_
 rintro _ h12 ⟨y,q',rfl,ry,x12',hb12,lq⟩
 have g2:=x12'.at hb11 g2
 have g4:=x12'.at hb11 g4
 simp only[Ab,I,Ai]
 simp only[not_true_eq_false,decide_false,Ab,Adj]
 rw[Fy g2 rfl,A3 Nw]
 simp only[Ls]
 have hpos:0<(Ama f).length:=by rw[Aba w];decide
 refine(Bbp (K:=K) hK (ry.bs hpos) hb12 (A20 w) hpos (by rw[Aba w];decide)).Al ?_
 rintro v h13 ⟨q2,r13,x13',hb13,lq2⟩
 have r13:Bu h13 v q2 5 1 (Ii f).length (Dl (Ii f)):=r13
 have g4:=x13'.at hb12 g4
 have hel:=U4 w
 have hsl:=r13.slice (by rw[hel];decide)
 subst hsl
 rw[show ∀ k:EV->R,Aj3 64 (.slice q2 0 (Ii f).length (Ii f).length true) k=k (.ptr q2 0) from fun k=>by rw[hel];rfl]
 rw[Fy (r13.block (by rw[hel];decide)) rfl,A3 (by rw[Cu,hel])]
 simp only[Ls]
 refine Ok.st (Dl (Ii f)) g4 rfl (by show Jh (Dl (Ii f))=64;rw[B8,Cu,hel]) (Cb (by rw[I6];show 64=(Dl (Ii f)).length;rw[Cu,hel])) ?_
 have g14:(h13.put (h.next+2) (.cells (Dl (Ii f)) 103)).get (h.next+2)=some (.cells (Dl (Ii f)) 103):=Aj _ _ _
 rw[Hs g14 Adg.1 Adg.2 (by rw[Cu,hel])]
 have xx:Ext h h13:=x11.trans (x12'.trans x13')
 exact .ret ⟨rfl,xx.A5 (.inr (by omega)) (hb13 _ _ g4) _⟩
end Go.Ev

namespace Go.Ev
open Go.Proofs
set_option maxRecDepth 100000
variable {K:Nat}
theorem Ok.Apy {h:Aa}{i o t:Nat}{l:List EV}{v:EV}{kk:Aa->R}{Q:EV->Aa->Prop}(hg:h.get i=some (.cells l t))(hb:HB h)(hp:v.plain=true)(hc:v.cells = [v])(ho:o<l.length)
 (hk:∀ h',h'.get i=some (.cells (l.set o v) t)->A9 (fun j=>j=i) h h'->HB h'->Ok (kk h') Q):Ok (Dw 1 (.ptr i o) v h kk) Q:=by
 have lt:=hb _ _ hg
 exact Ok.st1 hg hp hc ho (hk _ (Aj _ _ _) ((A9.refl (S:=fun j=>j=i) h).A5 (.inl rfl) lt _) (hb.put lt _))
theorem Alg:∀ (hd old new:List EV),old.length=new.length->F3 (hd++old) hd.length new=some (hd++new)
 | [],old,new,h=>by
  have:=Cb (l:=old) (vs:=new) h
  rw[Uy]at this
  exact this
 | a::hd,old,new,h=>by
  have ih:=Alg hd old new h
  show Ay (Nat.beq (hd.length+1) 0) _ (match F3 (hd++old) hd.length new with|some x=>some (a::x)|none=>none)=_
  rw[show Nat.beq (hd.length+1) 0=false from rfl,A6,ih]
  rfl
theorem A2z {h:Aa}{i n r:Nat}{op:Bool}{t:TypeId}{hd old new:List EV}{y:EV}(g:h.get i=some (.cells (hd++old) t))(hy:lenOf y=some n)(hn:0<n)(hc:Ni h 1 n y=some new)(hl:new.length=n)(ho:old.length=n):
 builtin TT .copy #[174,174] [.slice i hd.length n r op,y] h=some (I n,h.put i (.cells (hd++new) t)):=by
 have hu:TT.I5 174=some (.slice 5):=by kernel_rfl
 have hs:TT.size 5=some 1:=by kernel_rfl
 have hb:Nat.ble n n=true:=Nat.ble_eq_true_of_le (Nat.le_refl _)
 have h0:Nat.beq n 0=false:=by cases n with|zero=>omega|succ n=>rfl
 have hw:Lc h i hd.length new=some (h.put i (.cells (hd++new) t)):=by
  unfold Lc;rw[g];simp only;rw[Alg hd old new (by omega)]
 rw[Ami]at hc
 have hld:lenOf (.slice i hd.length n r op)=some n:=rfl
 unfold builtin
 simp only[hu,hs,hld,hy,hb,An,h0,A6,hc,hw]
 rfl
theorem Rd.chg {h h':Aa}{R q off:Nat}{l:List Nat}{S:Nat->Prop}(d:Rd h R q off l)(hb:HB h)(c:A9 S h h')(n1:¬ S q)(n2:¬ S R):Rd h' R q off l:=by
 obtain⟨s,g,e,f⟩:=d.Pb
 exact⟨⟨s,c.at hb g n2,e,fun y=>⟨(f y).1,(f y).2.frame (c.get _ ((f y).2.lt hb) n1)⟩⟩,d.ne⟩
def Fr.zero:Fr:=⟨0,0,0,0,0,List.replicate 44 0⟩
theorem Fr.Yb:List.replicate 5 (EV.int .i64 0)++List.replicate 44 (EV.int .u8 0)=Fr.zero.cells:=by kernel_rfl
def T6(p:List Nat):Fr:=⟨Nc (p.take 1),Nc (((p.drop 1).drop 1).take 2),Nc ((((p.drop 1).drop 1).drop 2).take 2),Nc (((((p.drop 1).drop 1).drop 2).drop 2).take 4),Nc ((((((p.drop 1).drop 1).drop 2).drop 2).drop 4).take 6),(((((((p.drop 1).drop 1).drop 2).drop 2).drop 4).drop 6).take 44)⟩
noncomputable def Rt(s:List Nat):Fr × Int:=
 if Ap8 s=false then (Fr.zero,11) else
 if Nc (((s.take 60).drop 1).take 1)=1/\frB (T6 (s.take 60))=true then (T6 (s.take 60),0) else (Fr.zero,10)
theorem Ata:TT.size 120=some 49/\TT.agg 120=some true:=⟨by kernel_rfl,by kernel_rfl⟩
theorem Ao7 {p:List Nat}(hp:p.length=60)(hu:∀ b ∈ p,b<256):(T6 p).Wf:=by
 refine⟨?_,fun b hb=>hu b ?_⟩
 ·simp only[T6,List.length_take,List.length_drop,hp];decide
 ·simp only[T6]at hb
  exact List.mem_of_mem_drop (List.mem_of_mem_drop (List.mem_of_mem_drop (List.mem_of_mem_drop (List.mem_of_mem_drop (List.mem_of_mem_drop (List.mem_of_mem_take hb))))))
theorem Fr.Nz:Fr.zero.Wf:=⟨by simp[Fr.zero],fun b hb=>by rw[List.eq_of_mem_replicate hb];decide⟩
theorem Bc4 {s:List Nat}(hl:s.length=64)(hu:∀ b ∈ s,b<256):(Rt s).1.Wf:=by
 unfold Rt
 split
 ·exact Fr.Nz
 ·split
  ·exact Ao7 (by rw[List.length_take,hl];decide) fun b hb=>hu b (List.mem_of_mem_take hb)
  ·exact Fr.Nz
theorem Anr {h:Aa}{s:List Nat}(hl:s.length=64)(hu:∀ b ∈ s,b<256)(hb:HB h)(hK:10000<K):
 Ok (Xc K Qv (.agg (Dl s)) h) fun v h'=>v=.tuple [.agg (Rt s).1.cells,I (Rt s).2]/\Ext h h':=by
 unfold Qv
 simp only[Xc,Ab]
 rw[Fr.Yb]
 have x1:Ext h (((h.new (.cells A8 72)).new (.cells (Dl s) 103)).new (.cells Fr.zero.cells 120)):=((A9.new _ _).Fp _).Fp _
 have g2:(((h.new (.cells A8 72)).new (.cells (Dl s) 103)).new (.cells Fr.zero.cells 120)).get h.next=some (.cells A8 72):=by
  rw[Bd _ (by show h.next<h.next+1+1;omega),Bd _ (Nat.lt_succ_self _)];exact Ag _ _
 have g3:(((h.new (.cells A8 72)).new (.cells (Dl s) 103)).new (.cells Fr.zero.cells 120)).get (h.next+1)=some (.cells (Dl s) 103):=by
  rw[Bd _ (by show h.next+1<h.next+1+1;omega)];exact Ag _ _
 have g4:(((h.new (.cells A8 72)).new (.cells (Dl s) 103)).new (.cells Fr.zero.cells 120)).get (h.next+2)=some (.cells Fr.zero.cells 120):=Ag _ _
 have n1:(((h.new (.cells A8 72)).new (.cells (Dl s) 103)).new (.cells Fr.zero.cells 120)).next=h.next+3:=rfl
 rw[show (h.new (.cells A8 72)).next=h.next+1 from rfl,show ((h.new (.cells A8 72)).new (.cells (Dl s) 103)).next=h.next+2 from rfl]
 generalize ((h.new (.cells A8 72)).new (.cells (Dl s) 103)).new (.cells Fr.zero.cells 120)=h1 at x1 g2 g3 g4 n1 ⊢
 have hb1:=x1.hb hb
 have ln2:=hb1 _ _ g2
 have zl:=Fr.Ce Fr.Nz
 have fin:∀ (f:Fr) (e:Int) (h5:Aa) (kk:Aa->R),(∀ h',kk h'=Ct TT [.c (.ptr (h.next+2) 0) 120,.v (I e)] h')->HB h5->Ext h h5->h5.get (h.next+2)=some (.cells Fr.zero.cells 120)->f.Wf->(f,e)=Rt s ->
  Ok (Dw 49 (.ptr (h.next+2) 0) (.agg f.cells) h5 kk) fun v h'=>v=.tuple [.agg (Rt s).1.cells,I (Rt s).2]/\Ext h h':=by
  intro f e h5 kk hkk hb5 x5 g5 wf he
  have fl:=Fr.Ce wf
  refine Ok.st f.cells g5 rfl (by show Jh f.cells=49;rw[B8,fl]) (Cb (by rw[zl];exact fl.symm)) ?_
  have g6:(h5.put (h.next+2) (.cells f.cells 120)).get (h.next+2)=some (.cells f.cells 120):=Aj _ _ _
  rw[hkk,Hs g6 Ata.1 Ata.2 fl,<-he]
  exact .ret ⟨rfl,x5.A5 (.inr (by omega)) (hb5 _ _ g5) _⟩
 simp only[A4 ln2,Bz,Ab,Fy g2 rfl,A3 Nw]
 rw[show ∀ k:EV->R,Pe 64 1 (.ptr (h.next+1) 0) none none none k=k (.slice (h.next+1) 0 64 64 false) from fun k=>rfl]
 have bs:Bs h1 (.slice (h.next+1) 0 s.length 64 false) (h.next+1) 0 s:=by
  refine⟨64,false,_,Dl s,rfl,by omega,g3,rfl,by rw[Cu];omega,?_⟩
  rw[List.drop_zero,<-Cu,List.take_length]
 have hop:=Bb2 (K:=K) hK bs.lift (F0 hb1) hu (by omega) (by omega)
 rw[hl]at hop
 refine Ok.Cs (by kernel_rfl) (by kernel_rfl) hop (fun _ _ p=>p.1) ?_
 rintro v h2 h3 ⟨_,_,hv⟩ sm x3
 have hb3:=x3.hb hb1
 have g4:=x3.at hb1 g4
 have x13:=x1.trans x3
 rcases hv with ⟨ho,rfl⟩|⟨ho,y,q',rfl,ry,lq⟩
 ·simp only[Ab,I,Ai]
  simp only[show ¬ ((11:Int)=0) by decide,not_false_eq_true,decide_true,Ab]
  rw[B6 (l:=Fr.zero.cells) rfl]
  exact fin Fr.zero 11 h3 _ (fun _=>rfl) hb3 x13 g4 Fr.Nz (by unfold Rt;rw[if_pos ho])
 ·have hne:¬ Ap8 s=false:=by rw[ho];simp
  simp only[Ab,I,Ai]
  simp only[not_true_eq_false,decide_false,Ab,Adf]
  have h60:s.length-4=60:=by omega
  rw[h60]at ry
  have hpl:(s.take 60).length=60:=by rw[List.length_take,hl];decide
  have hpu:∀ b ∈ s.take 60,b<256:=fun b hb=>hu b (List.mem_of_mem_take hb)
  have ry3:Bu h3 y q' 5 1 (s.take 60).length (Dl (s.take 60)):=ry.frame fun _=>sm.get _
  have hdec:Rt s=if Nc (((s.take 60).drop 1).take 1)=1/\frB (T6 (s.take 60))=true then (T6 (s.take 60),0) else (Fr.zero,10):=by unfold Rt;rw[if_neg hne]
  have wfF:=Ao7 hpl hpu
  rw[hdec]at fin ⊢
  unfold T6 at fin hdec wfF ⊢
  generalize s.take 60=p at ry3 hpl hpu fin hdec wfF ⊢
  refine(Ajk (K:=K) (ry3.bs (by omega)) hb3 (by omega) (by omega)).Al ?_
  rintro _ h5 ⟨Rr,q,rfl,d0,x5,hb5,lq5⟩
  have g4:=x5.at hb3 g4
  have x15:=x13.trans x5
  have hRn:Rr<h5.next:=by obtain⟨_,g,_⟩:=d0.Pb;exact hb5 _ _ g
  have hR4:h.next+2<Rr:=by have:=d0.ne;have:=x3.next;omega
  have up:∀ {ha hc:Aa},Ext h ha->A9 (fun i=>i=Rr) ha hc->Ext h hc:=fun x c=>x.then c fun j hj hlt=>by
   have hj:j=Rr:=hj
   omega
  have keep:∀ {ha hc:Aa} {i:Nat} {o:C7},A9 (fun i=>i=Rr) ha hc->HB ha->ha.get i=some o->i ≠ Rr->hc.get i=some o:=fun c hb g hi=>c.at hb g hi
  refine(Tu (K:=K) (w:=1) d0 hb5 (by omega) (by decide) (by decide) (by omega) hpu).Al ?_
  rintro _ h6 ⟨rfl,d1,c6,hb6⟩
  have g4:=keep c6 hb5 g4 (by omega)
  have x6:=up x15 c6
  rw[B6 (l:=(⟨Nc (p.take 1),0,0,0,0,List.replicate 44 0⟩:Fr).cells) rfl]
  try simp only[Ab]
  rw[Fr.Yb]
  have x7:Ext h6 (h6.new (.cells Fr.zero.cells 120)):=A9.new _ _
  have g9:(h6.new (.cells Fr.zero.cells 120)).get h6.next=some (.cells Fr.zero.cells 120):=Ag _ _
  have n7:(h6.new (.cells Fr.zero.cells 120)).next=h6.next+1:=rfl
  have g4:=x7.at hb6 g4
  have hb7:=x7.hb hb6
  have d1:=d1.ext hb6 x7
  have x17:=x6.trans x7
  have hF:Rr<h6.next:=by have:=c6.next;omega
  generalize h6.new (.cells Fr.zero.cells 120)=h7 at x7 g9 n7 g4 hb7 d1 x17 ⊢
  generalize h6.next=Fb at g9 n7 hF ⊢
  refine Ok.st (⟨Nc (p.take 1),0,0,0,0,List.replicate 44 0⟩:Fr).cells g9 rfl (by kernel_rfl) (Cb (by kernel_rfl)) ?_
  have lF:=hb7 _ _ g9
  have g9:(h7.put Fb (.cells (⟨Nc (p.take 1),0,0,0,0,List.replicate 44 0⟩:Fr).cells 120)).get Fb=some (.cells (⟨Nc (p.take 1),0,0,0,0,List.replicate 44 0⟩:Fr).cells 120):=Aj _ _ _
  have g4:(h7.put Fb (.cells (⟨Nc (p.take 1),0,0,0,0,List.replicate 44 0⟩:Fr).cells 120)).get (h.next+2)=some (.cells Fr.zero.cells 120):=by rw[As _ (by omega)];exact g4
  have d1:Rd (h7.put Fb (.cells (⟨Nc (p.take 1),0,0,0,0,List.replicate 44 0⟩:Fr).cells 120)) Rr q (0+1) (p.drop 1):=by
   have c:A9 (fun i=>i=Fb) h7 (h7.put Fb (.cells (⟨Nc (p.take 1),0,0,0,0,List.replicate 44 0⟩:Fr).cells 120)):=(A9.refl (S:=fun i=>i=Fb) h7).A5 (.inl rfl) lF _
   exact d1.chg hb7 c (by have:=d1.ne;intro y;omega) (by intro y;omega)
  have x8:Ext h (h7.put Fb (.cells (⟨Nc (p.take 1),0,0,0,0,List.replicate 44 0⟩:Fr).cells 120)):=x17.A5 (.inr (by omega)) lF _
  have hb8:=hb7.put lF (.cells (⟨Nc (p.take 1),0,0,0,0,List.replicate 44 0⟩:Fr).cells 120)
  generalize h7.put Fb (.cells (⟨Nc (p.take 1),0,0,0,0,List.replicate 44 0⟩:Fr).cells 120)=h8 at g9 g4 d1 x8 hb8 ⊢
  refine(Tu (K:=K) (w:=1) d1 hb8 (by omega) (by decide) (by decide) (by simp only[List.length_drop];omega) (fun b hb=>hpu b (by revert hb;exact fun y=>List.mem_of_mem_drop y))).Al ?_
  rintro _ h9 ⟨rfl,d2,c9,hb9⟩
  have g4:=keep c9 hb8 g4 (by omega)
  have g9:=keep c9 hb8 g9 (by omega)
  have x9:=up x8 c9
  refine(Tu (K:=K) (w:=2) d2 hb9 (by omega) (by decide) (by decide) (by simp only[List.length_drop];omega) (fun b hb=>hpu b (List.mem_of_mem_drop (List.mem_of_mem_drop hb)))).Al ?_
  rintro _ h10 ⟨rfl,d3,c10,hb10⟩
  have g4:=keep c10 hb9 g4 (by omega)
  have g9:=keep c10 hb9 g9 (by omega)
  have x10:=up x9 c10
  refine(Tu (K:=K) (w:=2) d3 hb10 (by omega) (by decide) (by decide) (by simp only[List.length_drop];omega) (fun b hb=>hpu b (List.mem_of_mem_drop (List.mem_of_mem_drop (List.mem_of_mem_drop hb))))).Al ?_
  rintro _ h11 ⟨rfl,d4,c11,hb11⟩
  have g4:=keep c11 hb10 g4 (by omega)
  have g9:=keep c11 hb10 g9 (by omega)
  have x11:=up x10 c11
  refine(Tu (K:=K) (w:=4) d4 hb11 (by omega) (by decide) (by decide) (by simp only[List.length_drop];omega) (fun b hb=>hpu b (List.mem_of_mem_drop (List.mem_of_mem_drop (List.mem_of_mem_drop (List.mem_of_mem_drop hb)))))).Al ?_
  rintro _ h12 ⟨rfl,d5,c12,hb12⟩
  have g4:=keep c12 hb11 g4 (by omega)
  have g9:=keep c12 hb11 g9 (by omega)
  have x12:=up x11 c12
  refine(Tu (K:=K) (w:=6) d5 hb12 (by omega) (by decide) (by decide) (by simp only[List.length_drop];omega) (fun b hb=>hpu b (List.mem_of_mem_drop (List.mem_of_mem_drop (List.mem_of_mem_drop (List.mem_of_mem_drop (List.mem_of_mem_drop hb))))))).Al ?_
  rintro _ h13 ⟨rfl,d6,c13,hb13⟩
  have g4:=keep c13 hb12 g4 (by omega)
  have g9:=keep c13 hb12 g9 (by omega)
  have x13':=up x12 c13
  have upF:∀ {ha hc:Aa},Ext h ha->A9 (fun i=>i=Fb) ha hc->Ext h hc:=fun x c=>x.then c fun j hj hlt=>by
   have hj:j=Fb:=hj
   omega
  have Asr:∀ {ha hc:Aa} {i:Nat} {o:C7},A9 (fun i=>i=Fb) ha hc->HB ha->ha.get i=some o->i ≠ Fb->hc.get i=some o:=fun c hb g hi=>c.at hb g hi
  have keepR:∀ {ha hc:Aa} {off:Nat} {l:List Nat},A9 (fun i=>i=Fb) ha hc->HB ha->Rd ha Rr q off l->Rd hc Rr q off l:=fun c hb d=>d.chg hb c (by have:=d.ne;intro y;omega) (by intro y;omega)
  have hz:(⟨Nc (p.take 1),0,0,0,0,List.replicate 44 0⟩:Fr).cells.length=49:=by kernel_rfl
  refine Ok.Apy g9 hb13 rfl rfl (by rw[hz];decide) ?_
  intro h14 g9 c14 hb14
  have g4:=Asr c14 hb13 g4 (by omega)
  have d6:=keepR c14 hb13 d6
  have x14:=upF x13' c14
  try simp only[Ab]
  refine Ok.Apy g9 hb14 rfl rfl (by rw[List.length_set,hz];decide) ?_
  intro h15 g9 c15 hb15
  have g4:=Asr c15 hb14 g4 (by omega)
  have d6:=keepR c15 hb14 d6
  have x15':=upF x14 c15
  try simp only[Ab]
  refine Ok.Apy g9 hb15 rfl rfl (by rw[List.length_set,List.length_set,hz];decide) ?_
  intro h16 g9 c16 hb16
  have g4:=Asr c16 hb15 g4 (by omega)
  have d6:=keepR c16 hb15 d6
  have x16:=upF x15' c16
  try simp only[Ab]
  refine Ok.Apy g9 hb16 rfl rfl (by rw[List.length_set,List.length_set,List.length_set,hz];decide) ?_
  intro h17 g9 c17 hb17
  have g4:=Asr c17 hb16 g4 (by omega)
  have d6:=keepR c17 hb16 d6
  have x17':=upF x16 c17
  try simp only[Ab]
  have g9:h17.get Fb=some (.cells ([Nk .i64 (Nc (p.take 1)),Nk .i64 (Nc (((p.drop 1).drop 1).take 2)),Nk .i64 (Nc ((((p.drop 1).drop 1).drop 2).take 2)),Nk .i64 (Nc (((((p.drop 1).drop 1).drop 2).drop 2).take 4)),Nk .i64 (Nc ((((((p.drop 1).drop 1).drop 2).drop 2).drop 4).take 6))]++Dl (List.replicate 44 0)) 120):=g9
  rw[show ∀ k:EV->R,Pe 44 1 (.ptr Fb 5) none none none k=k (.slice Fb 5 44 44 false) from fun k=>rfl]
  have hlen44:((((((p.drop 1).drop 1).drop 2).drop 2).drop 4).drop 6).length=44:=by simp only[List.length_drop];omega
  have dl:Rd h17.lift Rr q (0+1+1+2+2+4+6) ((((((p.drop 1).drop 1).drop 2).drop 2).drop 4).drop 6):=d6.chg hb17 (S:=fun _=>False) ⟨fun i _ _=>Di _ _,Nat.le_refl _,fun w _ w2 _=>w2,fun y=>F0 y⟩ id id
  refine Ok.Anz (S:=fun i=>i=Rr) (by kernel_rfl) (by kernel_rfl) (fun _=>by kernel_rfl) (Bap (K:=K) (n:=44) dl (F0 hb17) (by decide) (by omega)) (fun _ _ p=>p.2.2.1) ?_
  rintro v43 h18' h18 s' ⟨b43,d7,_,hb18'⟩ sm18 c18 hs'
  have hb18:=sm18.hb hb18'
  have b43:Bs h18 v43 q (0+1+1+2+2+4+6) (((((((p.drop 1).drop 1).drop 2).drop 2).drop 4).drop 6).take 44):=b43.frame (sm18.get _)
  have d7:Rd h18 Rr q (0+1+1+2+2+4+6+44) (((((((p.drop 1).drop 1).drop 2).drop 2).drop 4).drop 6).drop 44):=by
   obtain⟨s0,g,e,f⟩:=d7.Pb
   exact⟨⟨s0,by rw[sm18.get];exact g,e,fun y=>⟨(f y).1,(f y).2.frame (sm18.get _)⟩⟩,d7.ne⟩
  have g4:=keep c18 hb17 g4 (by omega)
  have g9:=keep c18 hb17 g9 (by omega)
  have x18:=up x17' c18
  generalize hbd:(((((p.drop 1).drop 1).drop 2).drop 2).drop 4).drop 6=body at b43 d7 hlen44 fin wfF ⊢
  generalize hq:Nc ((p.drop 1).take 1)=ver at fin ⊢
  generalize Nc (p.take 1)=na at g9 fin wfF ⊢
  generalize Nc (((p.drop 1).drop 1).take 2)=nz at g9 fin wfF ⊢
  generalize Nc ((((p.drop 1).drop 1).drop 2).take 2)=no at g9 fin wfF ⊢
  generalize Nc (((((p.drop 1).drop 1).drop 2).drop 2).take 4)=ne at g9 fin wfF ⊢
  generalize Nc ((((((p.drop 1).drop 1).drop 2).drop 2).drop 4).take 6)=ns at g9 fin wfF ⊢
  have htk:body.take 44=body:=List.take_of_length_le (by omega)
  rw[htk]at b43 fin wfF ⊢
  have hdk:body.drop 44 = []:=List.drop_eq_nil_of_le (by omega)
  rw[hdk]at d7
  have hlen:lenOf v43=some 44:=by have:=b43.len;rw[hlen44]at this;exact this
  have hcel:Ni h18.lift 1 44 v43=some (Dl body):=by have:=b43.lift.cells;rw[hlen44]at this;exact this
  have hcp:=A2z (h:=h18.lift) (i:=Fb) (n:=44) (r:=44) (op:=false) (t:=120) (hd:=[Nk .i64 na,Nk .i64 nz,Nk .i64 no,Nk .i64 ne,Nk .i64 ns]) (old:=Dl (List.replicate 44 0)) (by rw[Di];exact g9) hlen (by decide) hcel (by rw[Cu,hlen44]) (by rw[Cu,List.length_replicate])
  have lF18:=hb18 _ _ g9
  refine Ok.Anz (S:=fun i=>i=Fb) (by rcases hs' with rfl|⟨w,rfl,_⟩ <;> kernel_rfl) (by rcases hs' with rfl|⟨w,rfl,_⟩ <;> kernel_rfl) (fun w=>by rcases hs' with rfl|⟨w,rfl,_⟩ <;> kernel_rfl) (P:=fun v h'=>h'=h18.lift.put Fb (.cells ([Nk .i64 na,Nk .i64 nz,Nk .i64 no,Nk .i64 ne,Nk .i64 ns]++Dl body) 120)) ⟨_,_,hcp,rfl⟩ (fun _ _ p=>by rw[p];exact(A9.refl (S:=fun i=>i=Fb) h18.lift).A5 (.inl rfl) (show Fb<h18.lift.next from lF18) _) ?_
  rintro v44 h19' h19 s2 rfl sm19 c19 _
  have hb19:=c19.hb hb18
  have g9:h19.get Fb=some (.cells ([Nk .i64 na,Nk .i64 nz,Nk .i64 no,Nk .i64 ne,Nk .i64 ns]++Dl body) 120):=by rw[sm19.get];exact Aj _ _ _
  have g4:=Asr c19 hb18 g4 (by omega)
  have d7:=keepR c19 hb18 d7
  have x19:=upF x18 c19
  simp only[Ai]
  have cl:([Nk .i64 na,Nk .i64 nz,Nk .i64 no,Nk .i64 ne,Nk .i64 ns]++Dl body).length=49:=by rw[List.length_append,Cu,hlen44];rfl
  have bad:∀ h20:Aa,Ext h19 h20->¬ (ver=1/\frB ⟨na,nz,no,ne,ns,body⟩=true)->∀ w:EV,Ok (Mn K (.ptr (h.next+2) 0) (.ptr Fb 0) (.bool true) w h20) _:=fun h20 x20 hno w=>by
   simp only[Mn,Ab]
   rw[B6 (l:=Fr.zero.cells) rfl]
   exact fin Fr.zero 10 h20 _ (fun _=>rfl) (x20.hb hb19) (x19.trans x20) (x20.at hb19 g4) Fr.Nz (by rw[if_neg hno])
  by_cases hv:ver=1
  ·rw[show decide (¬ Int.ofNat ver=1)=false from decide_eq_false (by rw[hv];exact fun y=>y rfl)]
   simp only[Ab]
   rw[Fy g9 rfl,A3 cl]
   simp only[Ls]
   refine(Yp (K:=K) ⟨na,nz,no,ne,ns,body⟩).Al ?_
   rintro _ h20 ⟨rfl,x20⟩
   generalize frB ⟨na,nz,no,ne,ns,body⟩=fb at fin bad ⊢
   cases fb with
   | false=>
    simp only[Ab,Mv,Ai]
    exact bad h20 x20 (by simp) _
   | true=>
    have hb20:=x20.hb hb19
    simp only[Ab,Mv,Ai,Ba7 (d7.ext hb19 x20),I]
    simp only[Mn,Ab,not_true_eq_false,decide_false,Adp]
    rw[Fy (x20.at hb19 g9) rfl,A3 cl]
    simp only[Ls]
    have r:=fin ⟨na,nz,no,ne,ns,body⟩ 0 h20 (fun z=>Ct TT [RV.c (EV.ptr (h.next+2) 0) 120,RV.v (EV.int IntKind.i64 0)] z) (fun _=>rfl) hb20 (x19.trans x20) (x20.at hb19 g4) wfF (by rw[if_pos ⟨hv,rfl⟩])
    simp only[eq_self]at r
    exact r
  ·rw[show decide (¬ Int.ofNat ver=1)=true from decide_eq_true fun y=>hv (Int.ofNat.inj y)]
   simp only[Ab,Mv,Ai]
   exact bad h19 (A9.refl _) (fun y=>hv y.1) _
end Go.Ev

namespace Go.Ev
open Go.Proofs
set_option maxRecDepth 100000
variable {K:Nat}
noncomputable def atF(s:List Nat)(A7 off:Int):Fr × Int:=
 if ¬ (Rt s).2=0 then (Fr.zero,(Rt s).2) else if ¬ (Rt s).1.A7=A7\/¬ (Rt s).1.off=off then (Fr.zero,12) else ((Rt s).1,0)
theorem Anc {h:Aa}{s:List Nat}(hl:s.length=64)(hu:∀ b ∈ s,b<256)(hb:HB h)(hK:10000<K)(A7 off:Int):
 Ok (Yk K Qv (.agg (Dl s)) (I A7) (I off) h) fun v h'=>v=.tuple [.agg (atF s A7 off).1.cells,I (atF s A7 off).2]/\(atF s A7 off).1.Wf/\Ext h h':=by
 unfold Qv
 simp only[Yk,Ab]
 rw[Fr.Yb]
 have x1:Ext h (((h.new (.cells A8 72)).new (.cells (Dl s) 103)).new (.cells Fr.zero.cells 120)):=((A9.new _ _).Fp _).Fp _
 have g2:(((h.new (.cells A8 72)).new (.cells (Dl s) 103)).new (.cells Fr.zero.cells 120)).get h.next=some (.cells A8 72):=by
  rw[Bd _ (by show h.next<h.next+1+1;omega),Bd _ (Nat.lt_succ_self _)];exact Ag _ _
 have g3:(((h.new (.cells A8 72)).new (.cells (Dl s) 103)).new (.cells Fr.zero.cells 120)).get (h.next+1)=some (.cells (Dl s) 103):=by
  rw[Bd _ (by show h.next+1<h.next+1+1;omega)];exact Ag _ _
 have g4:(((h.new (.cells A8 72)).new (.cells (Dl s) 103)).new (.cells Fr.zero.cells 120)).get (h.next+2)=some (.cells Fr.zero.cells 120):=Ag _ _
 have n1:(((h.new (.cells A8 72)).new (.cells (Dl s) 103)).new (.cells Fr.zero.cells 120)).next=h.next+3:=rfl
 rw[show (h.new (.cells A8 72)).next=h.next+1 from rfl,show ((h.new (.cells A8 72)).new (.cells (Dl s) 103)).next=h.next+2 from rfl]
 generalize ((h.new (.cells A8 72)).new (.cells (Dl s) 103)).new (.cells Fr.zero.cells 120)=h1 at x1 g2 g3 g4 n1 ⊢
 have hb1:=x1.hb hb
 have zl:=Fr.Ce Fr.Nz
 have dwf:=Bc4 hl hu
 have fin:∀ (f:Fr) (e:Int) (h5:Aa) (kk:Aa->R),(∀ h',kk h'=Ct TT [.c (.ptr (h.next+2) 0) 120,.v (I e)] h')->HB h5->Ext h h5->h5.get (h.next+2)=some (.cells Fr.zero.cells 120)->f.Wf->(f,e)=atF s A7 off ->
  Ok (Dw 49 (.ptr (h.next+2) 0) (.agg f.cells) h5 kk) fun v h'=>v=.tuple [.agg (atF s A7 off).1.cells,I (atF s A7 off).2]/\(atF s A7 off).1.Wf/\Ext h h':=by
  intro f e h5 kk hkk hb5 x5 g5 wf he
  have fl:=Fr.Ce wf
  refine Ok.st f.cells g5 rfl (by show Jh f.cells=49;rw[B8,fl]) (Cb (by rw[zl];exact fl.symm)) ?_
  have g6:(h5.put (h.next+2) (.cells f.cells 120)).get (h.next+2)=some (.cells f.cells 120):=Aj _ _ _
  rw[hkk,Hs g6 Ata.1 Ata.2 fl,<-he]
  exact .ret ⟨rfl,wf,x5.A5 (.inr (by omega)) (hb5 _ _ g5) _⟩
 have u64:(Dl s).length=64:=by rw[Cu,hl]
 rw[Fy g2 rfl,A3 Nw]
 simp only[Ls]
 rw[Fy g3 rfl,A3 u64]
 simp only[Ls]
 refine(Anr (K:=K) hl hu hb1 hK).Al ?_
 rintro _ h2 ⟨rfl,x2⟩
 have hb2:=x2.hb hb1
 have g4:=x2.at hb1 g4
 have x12:=x1.trans x2
 simp only[Ab]
 have x3:Ext h2 (h2.new (.cells Fr.zero.cells 120)):=A9.new _ _
 have g9:(h2.new (.cells Fr.zero.cells 120)).get h2.next=some (.cells Fr.zero.cells 120):=Ag _ _
 have g4:=x3.at hb2 g4
 have hb3:=x3.hb hb2
 have x13:=x12.trans x3
 have n2:h.next+3<=h2.next:=by have:=x2.next;omega
 generalize h2.new (.cells Fr.zero.cells 120)=h3 at x3 g9 g4 hb3 x13 ⊢
 generalize h2.next=Fb at g9 n2 ⊢
 have dl:=Fr.Ce dwf
 refine Ok.st (Rt s).1.cells g9 rfl (by show Jh (Rt s).1.cells=49;rw[B8,dl]) (Cb (by rw[zl];exact dl.symm)) ?_
 have lF:=hb3 _ _ g9
 have g9:(h3.put Fb (.cells (Rt s).1.cells 120)).get Fb=some (.cells (Rt s).1.cells 120):=Aj _ _ _
 have g4:(h3.put Fb (.cells (Rt s).1.cells 120)).get (h.next+2)=some (.cells Fr.zero.cells 120):=by rw[As _ (by omega)];exact g4
 have x4:Ext h (h3.put Fb (.cells (Rt s).1.cells 120)):=x13.A5 (.inr (by omega)) lF _
 have hb4:=hb3.put lF (.cells (Rt s).1.cells 120)
 have e0:EV.cells (EV.agg (Rt s).1.cells)=(Rt s).1.cells:=rfl
 generalize h3.put Fb (.cells (Rt s).1.cells 120)=h4 at g9 g4 x4 hb4 ⊢
 unfold atF at fin ⊢
 generalize (Rt s).2=e at fin ⊢
 generalize (Rt s).1=f at fin dwf dl g9 ⊢
 simp only[I,Ai]
 by_cases he:e=0
 ·subst he
  simp only[not_true_eq_false,decide_false,Ab,Ana,Ck g9 rfl,if_false]at fin ⊢
  have l1:f.cells[1]? = some (I f.A7):=rfl
  have l2:f.cells[2]? = some (I f.off):=rfl
  rw[l1]
  simp only[Ls,I,Ai]
  by_cases hz:f.A7=A7
  ·simp only[hz,not_true_eq_false,decide_false,Ab,Ck g9 rfl,false_or]at fin ⊢
   rw[l2]
   simp only[Ls,I,Ai]
   by_cases ho:f.off=off
   ·simp only[ho,not_true_eq_false,decide_false,Ab,Un,if_false,Amx]at fin ⊢
    rw[Fy g9 rfl,A3 dl]
    exact fin f 0 h4 _ (fun _=>rfl) hb4 x4 g4 dwf rfl
   ·simp only[ho,not_false_eq_true,decide_true,Ab,Un,if_true]at fin ⊢
    rw[B6 (l:=Fr.zero.cells) rfl]
    exact fin Fr.zero 12 h4 _ (fun _=>rfl) hb4 x4 g4 Fr.Nz rfl
  ·simp only[hz,not_false_eq_true,decide_true,Ab,true_or,if_true,Un]at fin ⊢
   rw[B6 (l:=Fr.zero.cells) rfl]
   exact fin Fr.zero 12 h4 _ (fun _=>rfl) hb4 x4 g4 Fr.Nz rfl
 ·simp only[he,not_false_eq_true,decide_true,Ab,if_true]at fin ⊢
  rw[B6 (l:=Fr.zero.cells) rfl]
  exact fin Fr.zero e h4 _ (fun _=>rfl) hb4 x4 g4 Fr.Nz rfl
end Go.Ev

namespace Go.Ev
open Go.Proofs
set_option maxRecDepth 100000
variable {K:Nat}
structure En where
 kind:Int
 first:Int
 count:Int
 block:Int
 many:Int
 F6:Int
 bytes:List Nat
def En.cells(e:En):List EV:=[I e.kind,I e.first,I e.count,I e.block,I e.many,I e.F6]++Dl e.bytes
structure En.Wf(e:En):Prop where
 len:e.bytes.length=32
 u8:∀ b ∈ e.bytes,b<256
theorem En.Ce {e:En}(w:e.Wf):e.cells.length=38:=by
 unfold En.cells;rw[List.length_append,Cu,w.len];rfl
theorem A72(a b:Nat):Ads (Nk .u8 a) (Nk .u8 b)=some (decide (a=b)):=by
 show Ay (Nat.beq (Mt .u8) (Mt .u8)) (some (eqB (Int.ofNat a) (Int.ofNat b))) none=_
 rw[Nat.beq_refl,An,Aad]
 exact congrArg some (decide_eq_decide.2 ⟨Int.ofNat.inj,congrArg _⟩)
theorem As8:∀ (a b:List Nat),a.length=b.length->Gr (Dl a) (Dl b)=some (decide (a=b))
 | [],[],_=>rfl
 | x::a,y::b,h=>by
  have ih:=As8 a b (by simpa using h)
  show (match Ads (Nk .u8 x) (Nk .u8 y) with|some true=>Gr (Dl a) (Dl b)|some false=>(match Gr (Dl a) (Dl b) with|some _=>some false|none=>none)|none=>none)=_
  rw[A72,ih]
  by_cases hx:x=y
  ·rw[decide_eq_true hx]
   subst hx
   simp
  ·rw[decide_eq_false hx]
   simp[hx]
theorem Atq:∀ (a:List Nat),shaped (List.replicate a.length 0) (Dl a)=true
 | []=>rfl
 | x::a=>by
  show Ay (Nat.beq 0 0) (shaped (List.replicate a.length 0) (Dl a)) false=true
  rw[Atq a];rfl
theorem A3o {t n:Nat}(ht:TT.eqs t=some (List.replicate n 0)){a b:List Nat}(ha:a.length=n)(hb:b.length=n)(k:EV->R):Ar G1 (bin TT .eql t) (.agg (Dl a)) (.agg (Dl b)) k=k (.bool (decide (a=b))):=by
 have e:bin TT .eql t (.agg (Dl a)) (.agg (Dl b))=some (.bool (decide (a=b))):=by
  show (match A35 TT t (.agg (Dl a)) (.agg (Dl b)) with|some b=>some (EV.bool b)|none=>none)=_
  have:A35 TT t (.agg (Dl a)) (.agg (Dl b))=some (decide (a=b)):=by
   show (match TT.eqs t with|some sh=>Ay (shaped sh (Dl a)) (Gr (Dl a) (Dl b)) none|none=>none)=_
   rw[ht]
   simp only
   rw[show List.replicate n 0=List.replicate a.length 0 by rw[ha],Atq,An,As8 a b (by omega)]
  rw[this]
 show oB k (bin TT .eql t (.agg (Dl a)) (.agg (Dl b)))=_
 rw[e];rfl
theorem Bku:TT.eqs 87=some (List.replicate 32 0):=by kernel_rfl
theorem Ms(n a b:Int)(h:Aa):Km K (.int .i64 n) (.int .i64 a) (.int .i64 b) h=some (.bool (wi n a b),h):=by
 simp only[Km,Ai,Ab]
 by_cases h1:a<=n
 ·simp only[h1,decide_true,Ab,Ai,P6,wi,Bool.true_and]
 ·simp only[h1,decide_false,Ab,P6,wi,Bool.false_and]
def Bcj:List Nat:=List.replicate 32 0
def Aoh(e:En):Bool:=
 if e.kind=1 then wi e.count 1 4 && decide (e.many=0) else
 if e.kind=2 then (decide (e.count=1) && wi e.many 1 (256-e.block)) && decide (e.bytes=Bcj) else
 if e.kind=3 then decide (e.count=1) && decide (e.many=0) else false
theorem Azl:List.replicate 32 (EV.int .u8 0)=Dl Bcj:=by kernel_rfl
theorem An4 {h:Aa}{e:En}(w:e.Wf)(hbl:wi e.block 0 255=true):Ok (L8 K (.agg e.cells) h) fun v h'=>v=.bool (Aoh e)/\Ext h h':=by
 obtain⟨b0,b1⟩:=Ie.1 hbl
 simp only[L8,Ab]
 have x1:Ext h (h.new (.cells e.cells 89)):=A9.new _ _
 have g1:(h.new (.cells e.cells 89)).get h.next=some (.cells e.cells 89):=Ag _ _
 generalize h.new (.cells e.cells 89)=h1 at x1 g1 ⊢
 have l0:e.cells[0]? = some (I e.kind):=rfl
 have l2:e.cells[2]? = some (I e.count):=rfl
 have l3:e.cells[3]? = some (I e.block):=rfl
 have l4:e.cells[4]? = some (I e.many):=rfl
 have l6:Nf e.cells 6 32=some (Dl e.bytes):=by
  rw[Hx (by rw[En.Ce w];decide)]
  show some (List.take 32 (Dl e.bytes))=_
  rw[List.take_of_length_le (by rw[Cu,w.len];decide)]
 simp only[Ck g1 rfl,Ab,l0,I,Ai]
 unfold Aoh
 by_cases k1:e.kind=1
 ·simp only[k1,decide_true,Ab,Ck g1 rfl,l2,I,Ms,Ai,if_true]
  cases wi e.count 1 4 with
  | false=>simp only[Ab,Jz,Ai];exact .ret ⟨rfl,x1⟩
  | true=>
   simp only[Ab,Ck g1 rfl,l4,I,Ai,Jz,Bool.true_and]
   exact .ret ⟨rfl,x1⟩
 ·simp only[k1,decide_false,Ab,if_false,Ai]
  by_cases k2:e.kind=2
  ·simp only[k2,decide_true,Ab,Ck g1 rfl,l2,I,Ai,if_true]
   by_cases c1:e.count=1
   ·simp only[c1,decide_true,Ab,Ck g1 rfl,l4,l3,I,Ai,Bool.true_and]
    rw[C8 (by omega) (by omega),Ms]
    simp only[Ab,Jv]
    cases wi e.many 1 (256-e.block) with
    | false=>simp only[Ab,H7,Ai,Bool.false_and];exact .ret ⟨rfl,x1⟩
    | true=>
     simp only[Ab,Ai,Fy g1 rfl,l6]
     rw[B6 (l:=Dl Bcj) (by rw[Azl];rfl),A3o Bku w.len (by rfl)]
     simp only[H7,Ab,Bool.true_and]
     exact .ret ⟨rfl,x1⟩
   ·simp only[c1,decide_false,Ab,Ai,Jv,H7,Bool.false_and]
    exact .ret ⟨rfl,x1⟩
  ·simp only[k2,decide_false,Ab,if_false,Ai]
   by_cases k3:e.kind=3
   ·simp only[k3,decide_true,Ab,Ck g1 rfl,l2,I,Ai,if_true]
    by_cases c1:e.count=1
    ·simp only[c1,decide_true,Ab,Ck g1 rfl,l4,I,Ai,J1,Bool.true_and]
     exact .ret ⟨rfl,x1⟩
    ·simp only[c1,decide_false,Ab,Ai,J1,Bool.false_and]
     exact .ret ⟨rfl,x1⟩
   ·simp only[k3,decide_false,Ab,if_false,S3]
    exact .ret ⟨rfl,x1⟩
def erB(e:En):Bool:=wi e.first 0 281474976710655 && (wi e.block 0 255 && (wi e.F6 0 65535 && Aoh e))
theorem Aq4 {h:Aa}{e:En}(w:e.Wf):Ok (Nn K (.agg e.cells) h) fun v h'=>v=.bool (erB e)/\Ext h h':=by
 simp only[Nn,Ab]
 have x1:Ext h (h.new (.cells e.cells 89)):=A9.new _ _
 have g1:(h.new (.cells e.cells 89)).get h.next=some (.cells e.cells 89):=Ag _ _
 generalize h.new (.cells e.cells 89)=h1 at x1 g1 ⊢
 have l1:e.cells[1]? = some (I e.first):=rfl
 have l3:e.cells[3]? = some (I e.block):=rfl
 have l5:e.cells[5]? = some (I e.F6):=rfl
 simp only[Ck g1 rfl,Ab,l1,I,Ms,Ai]
 unfold erB
 cases wi e.first 0 281474976710655 with
 | false=>simp only[Ab,Ai,J6,Im,G9];exact .ret ⟨rfl,x1⟩
 | true=>
 simp only[Ab,Ai,Ck g1 rfl,l3,I,Ms,J6,Bool.true_and]
 cases hbl:wi e.block 0 255 with
 | false=>simp only[Ab,Ai,Im,G9];exact .ret ⟨rfl,x1⟩
 | true=>
 simp only[Ab,Ai,Ck g1 rfl,l5,I,Ms,Im,Bool.true_and]
 cases wi e.F6 0 65535 with
 | false=>simp only[Ab,Ai,G9];exact .ret ⟨rfl,x1⟩
 | true=>
 simp only[Ab,Ai,Bool.true_and]
 rw[Fy g1 rfl,A3 (En.Ce w)]
 simp only[Ls]
 refine(An4 (K:=K) w hbl).Al ?_
 rintro _ h2 ⟨rfl,x2⟩
 simp only[G9,Ab]
 exact .ret ⟨rfl,x1.trans x2⟩
end Go.Ev

namespace Go.Ev
open Go.Proofs
set_option maxRecDepth 100000
variable {K:Nat}
def Ns(e:En):List Nat:=Qx 6 e.first.toNat++Qx 1 e.count.toNat++Qx 1 e.block.toNat++Qx 2 e.many.toNat++Qx 2 e.F6.toNat++e.bytes
def Tb:List Nat:=List.replicate 44 0
theorem Apn:List.replicate 44 (EV.int .u8 0)=Dl Tb:=by kernel_rfl
def Gp(e:En):List Nat × Int:=if erB e=true then (Ns e,0) else (Tb,10)
theorem Asq {e:En}(w:e.Wf):(Ns e).length=44:=by
 unfold Ns;simp only[List.length_append,Gu,w.len]
theorem A60 {e:En}(w:e.Wf):∀ b ∈ Ns e,b<256:=fun b hb=>by
 unfold Ns at hb
 simp only[List.mem_append]at hb
 rcases hb with ((((hb|hb)|hb)|hb)|hb)|hb
 ·exact Vp _ _ b hb
 ·exact Vp _ _ b hb
 ·exact Vp _ _ b hb
 ·exact Vp _ _ b hb
 ·exact Vp _ _ b hb
 ·exact w.u8 b hb
theorem Al6 {e:En}(w:e.Wf):(Gp e).1.length=44:=by
 unfold Gp;split
 ·exact Asq w
 ·rfl
theorem Axu {e:En}(w:e.Wf):∀ b ∈ (Gp e).1,b<256:=by
 unfold Gp;split
 ·exact A60 w
 ·intro b hb;rw[List.eq_of_mem_replicate hb];decide
theorem Bdg:TT.size 118=some 44/\TT.agg 118=some true:=⟨by kernel_rfl,by kernel_rfl⟩
theorem A1a {e:En}(hr:erB e=true):(0<=e.first/\e.first<=281474976710655)/\(0<=e.block/\e.block<=255)/\(0<=e.F6/\e.F6<=65535)/\(1<=e.count/\e.count<=4)/\(0<=e.many/\e.many<=256)/\(1<=e.kind/\e.kind<=3):=by
 unfold erB at hr
 simp only[Bool.and_eq_true]at hr
 obtain⟨r1,r2,r3,r4⟩:=hr
 have a:=Ie.1 r1
 have b:=Ie.1 r2
 have c:=Ie.1 r3
 refine⟨a,b,c,?_⟩
 unfold Aoh at r4
 split at r4
 ·simp only[Bool.and_eq_true,decide_eq_true_eq]at r4
  have:=Ie.1 r4.1
  omega
 ·split at r4
  ·simp only[Bool.and_eq_true,decide_eq_true_eq]at r4
   have:=Ie.1 r4.1.2
   omega
  ·split at r4
   ·simp only[Bool.and_eq_true,decide_eq_true_eq]at r4
    omega
   ·cases r4
theorem Ars {h:Aa}{e:En}(w:e.Wf)(hb:HB h)(hK:10000<K):
 Ok (Oy K (.agg e.cells) h) fun v h'=>v=.tuple [.agg (Dl (Gp e).1),I (Gp e).2]/\Ext h h':=by
 have l1:e.cells[1]? = some (I e.first):=rfl
 have l2:e.cells[2]? = some (I e.count):=rfl
 have l3:e.cells[3]? = some (I e.block):=rfl
 have l4:e.cells[4]? = some (I e.many):=rfl
 have l5:e.cells[5]? = some (I e.F6):=rfl
 have hfl:=En.Ce w
 simp only[Oy,Ab]
 rw[Apn]
 have x1:Ext h (((h.new (.cells e.cells 89)).new (.cells (Dl Tb) 118)).new (.cells (Dl Tb) 118)):=((A9.new _ _).Fp _).Fp _
 have g1:(((h.new (.cells e.cells 89)).new (.cells (Dl Tb) 118)).new (.cells (Dl Tb) 118)).get h.next=some (.cells e.cells 89):=by
  rw[Bd _ (by show h.next<h.next+1+1;omega),Bd _ (Nat.lt_succ_self _)];exact Ag _ _
 have g2:(((h.new (.cells e.cells 89)).new (.cells (Dl Tb) 118)).new (.cells (Dl Tb) 118)).get (h.next+1)=some (.cells (Dl Tb) 118):=by
  rw[Bd _ (by show h.next+1<h.next+1+1;omega)];exact Ag _ _
 have g4:(((h.new (.cells e.cells 89)).new (.cells (Dl Tb) 118)).new (.cells (Dl Tb) 118)).get (h.next+2)=some (.cells (Dl Tb) 118):=Ag _ _
 have n1:(((h.new (.cells e.cells 89)).new (.cells (Dl Tb) 118)).new (.cells (Dl Tb) 118)).next=h.next+3:=rfl
 rw[show (h.new (.cells e.cells 89)).next=h.next+1 from rfl,show ((h.new (.cells e.cells 89)).new (.cells (Dl Tb) 118)).next=h.next+2 from rfl]
 generalize ((h.new (.cells e.cells 89)).new (.cells (Dl Tb) 118)).new (.cells (Dl Tb) 118)=h1 at x1 g1 g2 g4 n1 ⊢
 have hb1:=x1.hb hb
 have zl:(Dl Tb).length=44:=by rw[Cu];rfl
 have fin:∀ (l:List Nat) (er:Int) (h5:Aa) (kk:Aa->R),(∀ h',kk h'=Ct TT [.c (.ptr (h.next+1) 0) 118,.v (I er)] h')->HB h5->Ext h h5->h5.get (h.next+1)=some (.cells (Dl Tb) 118)->l.length=44->(l,er)=Gp e ->
  Ok (Dw 44 (.ptr (h.next+1) 0) (.agg (Dl l)) h5 kk) fun v h'=>v=.tuple [.agg (Dl (Gp e).1),I (Gp e).2]/\Ext h h':=by
  intro l er h5 kk hkk hb5 x5 g5 hl he
  have fl:(Dl l).length=44:=by rw[Cu,hl]
  refine Ok.st (Dl l) g5 rfl (by show Jh (Dl l)=44;rw[B8,fl]) (Cb (by rw[zl];exact fl.symm)) ?_
  have g6:(h5.put (h.next+1) (.cells (Dl l) 118)).get (h.next+1)=some (.cells (Dl l) 118):=Aj _ _ _
  rw[hkk,Hs g6 Bdg.1 Bdg.2 fl,<-he]
  exact .ret ⟨rfl,x5.A5 (.inr (by omega)) (hb5 _ _ g5) _⟩
 rw[Fy g1 rfl,A3 hfl]
 simp only[Ls]
 refine(Aq4 (K:=K) w).Al ?_
 rintro _ h2 ⟨rfl,x2⟩
 have hb2:=x2.hb hb1
 have x12:=x1.trans x2
 have g1:=x2.at hb1 g1
 have g2:=x2.at hb1 g2
 have g4:=x2.at hb1 g4
 have n2:h.next+3<=h2.next:=by have:=x2.next;omega
 unfold Gp at fin ⊢
 cases hr:erB e with
 | false=>
  rw[hr]at fin
  simp only[Ab,Bool.false_eq_true,if_false]at fin ⊢
  rw[Fy g4 rfl,A3 zl]
  simp only[Ls]
  exact fin Tb 10 h2 _ (fun _=>rfl) hb2 x12 g2 rfl rfl
 | true=>
 rw[hr]at fin
 simp only[Ab,if_true,V2]at fin ⊢
 obtain⟨⟨a1,b1⟩,⟨a2,b2⟩,⟨a3,b3⟩,⟨a4,b4⟩,⟨a5,b5⟩,_⟩:=A1a hr
 have p0:Aro (h2.new (.cells [.Af,.bool false] 278)) h2.next 278 [] false:=⟨.Af,0,Ag _ _,.nil _ _ _ _,fun y=>absurd y (Nat.lt_irrefl _)⟩
 have x3:Ext h2 (h2.new (.cells [.Af,.bool false] 278)):=A9.new _ _
 have g1:=x3.at hb2 g1
 have g2:=x3.at hb2 g2
 have g4:=x3.at hb2 g4
 have hb3:=x3.hb hb2
 have x13:=x12.trans x3
 generalize h2.new (.cells [.Af,.bool false] 278)=h3 at p0 x3 g1 g2 g4 hb3 x13 ⊢
 generalize hP:h2.next=P at p0 n2 ⊢
 have up:∀ {ha hc:Aa},Ext h ha->A9 (fun i=>P<=i) ha hc->Ext h hc:=fun x c=>x.then c fun j hj hl=>by
  have hj:P<=j:=hj
  omega
 have lo:∀ {ha hc:Aa} {i:Nat} {o:C7},A9 (fun i=>P<=i) ha hc->HB ha->ha.get i=some o->i<P->hc.get i=some o:=fun c hb g hi=>c.at hb g (by omega)
 rw[Ck g1 rfl,l1]
 simp only[Ls]
 refine(Jr (K:=K) (w:=6) (by omega) p0 hb3 (by simp) (by decide) (by decide) (v:=e.first) (by omega)).Al ?_
 rintro _ h5 ⟨p,c,hb5⟩
 rw[Re (b:=281474976710655) a1 b1 (by decide),if_pos rfl]at p
 have x5:=up x13 c
 have g1:=lo c hb3 g1 (by omega)
 have g2:=lo c hb3 g2 (by omega)
 have g4:=lo c hb3 g4 (by omega)
 rw[Ck g1 rfl,l2]
 simp only[Ls]
 refine(Jr (K:=K) (w:=1) (by omega) p hb5 (by simp[Gu]) (by decide) (by decide) (v:=e.count) (by omega)).Al ?_
 rintro _ h6 ⟨p,c,hb6⟩
 rw[Re (b:=4) (by omega) b4 (by decide),if_pos rfl]at p
 have x6:=up x5 c
 have g1:=lo c hb5 g1 (by omega)
 have g2:=lo c hb5 g2 (by omega)
 have g4:=lo c hb5 g4 (by omega)
 rw[Ck g1 rfl,l3]
 simp only[Ls]
 refine(Jr (K:=K) (w:=1) (by omega) p hb6 (by simp[Gu]) (by decide) (by decide) (v:=e.block) (by omega)).Al ?_
 rintro _ h7 ⟨p,c,hb7⟩
 rw[Re (b:=255) a2 b2 (by decide),if_pos rfl]at p
 have x7:=up x6 c
 have g1:=lo c hb6 g1 (by omega)
 have g2:=lo c hb6 g2 (by omega)
 have g4:=lo c hb6 g4 (by omega)
 rw[Ck g1 rfl,l4]
 simp only[Ls]
 refine(Jr (K:=K) (w:=2) (by omega) p hb7 (by simp[Gu]) (by decide) (by decide) (v:=e.many) (by omega)).Al ?_
 rintro _ h8 ⟨p,c,hb8⟩
 rw[Re (b:=256) a5 b5 (by decide),if_pos rfl]at p
 have x8:=up x7 c
 have g1:=lo c hb7 g1 (by omega)
 have g2:=lo c hb7 g2 (by omega)
 have g4:=lo c hb7 g4 (by omega)
 rw[Ck g1 rfl,l5]
 simp only[Ls]
 refine(Jr (K:=K) (w:=2) (by omega) p hb8 (by simp[Gu]) (by decide) (by decide) (v:=e.F6) (by omega)).Al ?_
 rintro _ h9 ⟨p,c,hb9⟩
 rw[Re (b:=65535) a3 b3 (by decide),if_pos rfl]at p
 have x9:=up x8 c
 have g1:=lo c hb8 g1 (by omega)
 have g2:=lo c hb8 g2 (by omega)
 have g4:=lo c hb8 g4 (by omega)
 try simp only[Ab]
 rw[show ∀ k:EV->R,Pe 32 1 (.ptr h.next 6) none none none k=k (.slice h.next 6 32 32 false) from fun k=>rfl]
 have hcb:Ni h9 1 32 (.slice h.next 6 32 32 false)=some (Dl e.bytes):=by
  show Ut h9 h.next 6 32=_
  unfold Ut Xt
  rw[g1]
  show Nf e.cells 6 32=_
  rw[Hx (by rw[hfl];decide)]
  show some (List.take 32 (Dl e.bytes))=_
  rw[List.take_of_length_le (by rw[Cu,w.len];decide)]
 refine(Akd (K:=K) (n:=32) p hb9 (by simp[Gu]) rfl (by decide) (by decide) hcb w.len).Al ?_
 rintro _ h11 ⟨p,c,hb11⟩
 have x11:=up x9 c
 have g2:=lo c hb9 g2 (by omega)
 have g4:=lo c hb9 g4 (by omega)
 have ep:([]++Qx 6 e.first.toNat++Qx 1 e.count.toNat++Qx 1 e.block.toNat++Qx 2 e.many.toNat++Qx 2 e.F6.toNat++e.bytes)=Ns e:=by
  unfold Ns;rw[List.nil_append]
 have ebad:∀ b:Bool,(b || !true)=b:=by decide
 rw[ep]at p
 simp only[ebad]at p
 have hel:=Asq w
 refine(Aqw (K:=K) p hb11 (by rw[hel];decide)).Al ?_
 rintro _ h12 ⟨y,q',rfl,ry,x12',hb12,lq⟩
 have g2:=x12'.at hb11 g2
 have g4:=x12'.at hb11 g4
 have x112:=x11.trans x12'
 simp only[Ab]
 rw[show ∀ k:EV->R,Pe 44 1 (.ptr (h.next+2) 0) none none none k=k (.slice (h.next+2) 0 44 44 false) from fun k=>rfl]
 have bsy:=ry.bs (by rw[hel];decide)
 have hlen:=bsy.len
 have hcel:=bsy.cells
 rw[hel]at hlen hcel
 have hcp:=A2z (h:=h12) (i:=h.next+2) (n:=44) (r:=44) (op:=false) (t:=118) (hd:=[]) (old:=Dl Tb) g4 hlen (by decide) hcel (by rw[Cu,hel]) zl
 rw[show ([]:List EV).length=0 from rfl,List.nil_append]at hcp
 rw[hcp,Bg]
 have l44:=hb12 _ _ g4
 have g4:(h12.put (h.next+2) (.cells (Dl (Ns e)) 118)).get (h.next+2)=some (.cells (Dl (Ns e)) 118):=Aj _ _ _
 have g2:(h12.put (h.next+2) (.cells (Dl (Ns e)) 118)).get (h.next+1)=some (.cells (Dl Tb) 118):=by rw[As _ (by omega)];exact g2
 rw[Fy g4 rfl,A3 (by rw[Cu,hel])]
 simp only[Ls]
 exact fin (Ns e) 0 _ _ (fun _=>rfl) (hb12.put l44 _) (x112.A5 (.inr (by omega)) l44 _) g2 hel rfl
end Go.Ev

namespace Go.Ev
open Go.Proofs
set_option maxRecDepth 100000
variable {K:Nat}
theorem Azw(a b c d e:Int){l:List EV}(hl:l.length=44):Wm (Dj [(0,1),(1,1),(2,1),(3,1),(4,1),(5,44)]) [(0,I a),(1,I b),(2,I c),(3,I d),(4,I e),(5,.agg l)] Fr.zero.cells=some ([I a,I b,I c,I d,I e]++l):=by
 have hs:=Alg [I a,I b,I c,I d,I e] (Dl (List.replicate 44 0)) l (by rw[Cu,List.length_replicate,hl])
 rw[<-Uy]at hs
 show Ay (Nat.beq (Jh l) 44) (oB (fun z=>some z) (Lt ([I a,I b,I c,I d,I e]++Dl (List.replicate 44 0)) 5 l)) none=_
 rw[B8,hl,Nat.beq_refl,An]
 rw[show (5:Nat) = [I a,I b,I c,I d,I e].length from rfl,hs]
 rfl
def F4(e:En)(A7 off Ax seq:Int):Fr × Int:=
 if erB e=true/\frB ⟨e.kind,A7,off,Ax,seq,(Gp e).1⟩=true/\e.first<=seq/\seq-e.count<e.first then (⟨e.kind,A7,off,Ax,seq,(Gp e).1⟩,0) else (Fr.zero,10)
theorem Amj {e:En}(w:e.Wf)(A7 off Ax seq:Int):(F4 e A7 off Ax seq).1.Wf:=by
 unfold F4
 split
 ·exact⟨Al6 w,Axu w⟩
 ·exact Fr.Nz
theorem Ae7 {h:Aa}{e:En}(w:e.Wf)(hb:HB h)(hK:10000<K)(A7 off Ax seq:Int):
 Ok (Ix K (.agg e.cells) (I A7) (I off) (I Ax) (I seq) h) fun v h'=>v=.tuple [.agg (F4 e A7 off Ax seq).1.cells,I (F4 e A7 off Ax seq).2]/\Ext h h':=by
 have l0:e.cells[0]? = some (I e.kind):=rfl
 have l1:e.cells[1]? = some (I e.first):=rfl
 have l2:e.cells[2]? = some (I e.count):=rfl
 have hfl:=En.Ce w
 have zl:=Fr.Ce Fr.Nz
 have fwf:(⟨e.kind,A7,off,Ax,seq,(Gp e).1⟩:Fr).Wf:=⟨Al6 w,Axu w⟩
 have fl:=Fr.Ce fwf
 simp only[Ix,Ab]
 rw[Fr.Yb]
 have x1:Ext h ((h.new (.cells e.cells 89)).new (.cells Fr.zero.cells 120)):=(A9.new _ _).Fp _
 have g5:((h.new (.cells e.cells 89)).new (.cells Fr.zero.cells 120)).get h.next=some (.cells e.cells 89):=by
  rw[Bd _ (Nat.lt_succ_self _)];exact Ag _ _
 have g10:((h.new (.cells e.cells 89)).new (.cells Fr.zero.cells 120)).get (h.next+1)=some (.cells Fr.zero.cells 120):=Ag _ _
 have n1:((h.new (.cells e.cells 89)).new (.cells Fr.zero.cells 120)).next=h.next+2:=rfl
 rw[show (h.new (.cells e.cells 89)).next=h.next+1 from rfl]
 generalize (h.new (.cells e.cells 89)).new (.cells Fr.zero.cells 120)=h1 at x1 g5 g10 n1 ⊢
 have hb1:=x1.hb hb
 have fin:∀ (f:Fr) (er:Int) (h5:Aa) (kk:Aa->R),(∀ h',kk h'=Ct TT [.c (.ptr (h.next+1) 0) 120,.v (I er)] h')->HB h5->Ext h h5->h5.get (h.next+1)=some (.cells Fr.zero.cells 120)->f.Wf->(f,er)=F4 e A7 off Ax seq ->
  Ok (Dw 49 (.ptr (h.next+1) 0) (.agg f.cells) h5 kk) fun v h'=>v=.tuple [.agg (F4 e A7 off Ax seq).1.cells,I (F4 e A7 off Ax seq).2]/\Ext h h':=by
  intro f er h5 kk hkk hb5 x5 g5 wf he
  have fl:=Fr.Ce wf
  refine Ok.st f.cells g5 rfl (by show Jh f.cells=49;rw[B8,fl]) (Cb (by rw[zl];exact fl.symm)) ?_
  have g6:(h5.put (h.next+1) (.cells f.cells 120)).get (h.next+1)=some (.cells f.cells 120):=Aj _ _ _
  rw[hkk,Hs g6 Ata.1 Ata.2 fl,<-he]
  exact .ret ⟨rfl,x5.A5 (.inr (by omega)) (hb5 _ _ g5) _⟩
 rw[Fy g5 rfl,A3 hfl]
 simp only[Ls]
 refine(Ars (K:=K) w hb1 hK).Al ?_
 rintro _ h2 ⟨rfl,x2⟩
 have hb2:=x2.hb hb1
 have x12:=x1.trans x2
 have g5:=x2.at hb1 g5
 have g10:=x2.at hb1 g10
 have n2:h.next+2<=h2.next:=by have:=x2.next;omega
 simp only[Ab]
 rw[Apn]
 have x3:Ext h2 (h2.new (.cells (Dl Tb) 118)):=A9.new _ _
 have g12:(h2.new (.cells (Dl Tb) 118)).get h2.next=some (.cells (Dl Tb) 118):=Ag _ _
 have g5:=x3.at hb2 g5
 have g10:=x3.at hb2 g10
 have hb3:=x3.hb hb2
 have x13:=x12.trans x3
 have n3:(h2.new (.cells (Dl Tb) 118)).next=h2.next+1:=rfl
 generalize h2.new (.cells (Dl Tb) 118)=h3 at x3 g12 g5 g10 hb3 x13 n3 ⊢
 generalize h2.next=P at g12 n2 n3 ⊢
 have bl:(Dl (Gp e).1).length=44:=by rw[Cu,Al6 w]
 refine Ok.st (Dl (Gp e).1) g12 rfl (by show Jh (Dl (Gp e).1)=44;rw[B8,bl]) (Cb (by rw[Cu];exact bl.symm)) ?_
 have l12:=hb3 _ _ g12
 have g12:(h3.put P (.cells (Dl (Gp e).1) 118)).get P=some (.cells (Dl (Gp e).1) 118):=Aj _ _ _
 have g5:(h3.put P (.cells (Dl (Gp e).1) 118)).get h.next=some (.cells e.cells 89):=by rw[As _ (by omega)];exact g5
 have g10:(h3.put P (.cells (Dl (Gp e).1) 118)).get (h.next+1)=some (.cells Fr.zero.cells 120):=by rw[As _ (by omega)];exact g10
 have x4:Ext h (h3.put P (.cells (Dl (Gp e).1) 118)):=x13.A5 (.inr (by omega)) l12 _
 have hb4:=hb3.put l12 (.cells (Dl (Gp e).1) 118)
 have n4:(h3.put P (.cells (Dl (Gp e).1) 118)).next=P+1:=n3
 generalize h3.put P (.cells (Dl (Gp e).1) 118)=h4 at g12 g5 g10 x4 hb4 n4 ⊢
 try simp only[Ab]
 rw[Ck g5 rfl,l0]
 simp only[Ls]
 rw[Fy g12 rfl,A3 bl]
 simp only[Ls]
 try rw[Fr.Yb]
 rw[B6 (Azw e.kind A7 off Ax seq bl)]
 try simp only[Ab]
 have x5:Ext h4 (h4.new (.cells Fr.zero.cells 120)):=A9.new _ _
 have g14:(h4.new (.cells Fr.zero.cells 120)).get h4.next=some (.cells Fr.zero.cells 120):=Ag _ _
 have g5:=x5.at hb4 g5
 have g10:=x5.at hb4 g10
 have hb5:=x5.hb hb4
 have x15:=x4.trans x5
 generalize h4.new (.cells Fr.zero.cells 120)=h5 at x5 g14 g5 g10 hb5 x15 ⊢
 generalize h4.next=Q at g14 n4 ⊢
 refine Ok.st (⟨e.kind,A7,off,Ax,seq,(Gp e).1⟩:Fr).cells g14 rfl (by show Jh (⟨e.kind,A7,off,Ax,seq,(Gp e).1⟩:Fr).cells=49;rw[B8,fl]) (Cb (by rw[zl];exact fl.symm)) ?_
 have l14:=hb5 _ _ g14
 have g14:(h5.put Q (.cells (⟨e.kind,A7,off,Ax,seq,(Gp e).1⟩:Fr).cells 120)).get Q=some (.cells (⟨e.kind,A7,off,Ax,seq,(Gp e).1⟩:Fr).cells 120):=Aj _ _ _
 have g5:(h5.put Q (.cells (⟨e.kind,A7,off,Ax,seq,(Gp e).1⟩:Fr).cells 120)).get h.next=some (.cells e.cells 89):=by rw[As _ (by omega)];exact g5
 have g10:(h5.put Q (.cells (⟨e.kind,A7,off,Ax,seq,(Gp e).1⟩:Fr).cells 120)).get (h.next+1)=some (.cells Fr.zero.cells 120):=by rw[As _ (by omega)];exact g10
 have x6:Ext h (h5.put Q (.cells (⟨e.kind,A7,off,Ax,seq,(Gp e).1⟩:Fr).cells 120)):=x15.A5 (.inr (by omega)) l14 _
 have hb6:=hb5.put l14 (.cells (⟨e.kind,A7,off,Ax,seq,(Gp e).1⟩:Fr).cells 120)
 generalize h5.put Q (.cells (⟨e.kind,A7,off,Ax,seq,(Gp e).1⟩:Fr).cells 120)=h6 at g14 g5 g10 x6 hb6 ⊢
 have hbf:(Gp e).2=if erB e=true then 0 else 10:=by unfold Gp;split <;> rfl
 rw[hbf]
 unfold F4 at fin ⊢
 generalize hfr:(⟨e.kind,A7,off,Ax,seq,(Gp e).1⟩:Fr)=f at fin fwf fl g14 ⊢
 have no:∀ h7:Aa,Ext h6 h7->¬ (erB e=true/\frB f=true/\e.first<=seq/\seq-e.count<e.first)->Ok (B7 (Dj [(0,1),(1,1),(2,1),(3,1),(4,1),(5,44)]) Fr.zero.cells [] fun v50=>Dw 49 (.ptr (h.next+1) 0) v50 h7 fun z=>Ct TT [.c (.ptr (h.next+1) 0) 120,.v (.int .i64 10)] z) _:=fun h7 x7 hno=>by
  rw[B6 (l:=Fr.zero.cells) rfl]
  exact fin Fr.zero 10 h7 _ (fun _=>rfl) (x7.hb hb6) (x6.trans x7) (x7.at hb6 g10) Fr.Nz (by rw[if_neg hno])
 simp only[I,Ai]
 by_cases hr:erB e=true
 ·rw[if_pos hr]
  simp only[not_true_eq_false,decide_false,Ab]
  rw[Fy g14 rfl,A3 fl]
  simp only[Ls]
  refine(Yp (K:=K) f).Al ?_
  rintro _ h7 ⟨rfl,x7⟩
  have g5:=x7.at hb6 g5
  cases hf:frB f with
  | false=>
   simp only[Ab,Ai,Iq,G4,Ft]
   have r:=no h7 x7 (by rw[hf];simp)
   rw[hf]at r
   exact r
  | true=>
   have hf':=hf
   rw[<-hfr]at hf'
   simp only[frB,Bool.and_eq_true]at hf'
   have hsq:=Ie.1 hf'.2.2.2.2
   have hct:=(A1a hr).2.2.2.1
   have rr:=no h7 x7
   have rf:=fin f 0 h7 (fun z=>Ct TT [RV.c (EV.ptr (h.next+1) 0) 120,RV.v (EV.int IntKind.i64 0)] z) (fun _=>rfl) (x7.hb hb6) (x6.trans x7) (x7.at hb6 g10) fwf
   rw[hf]at rr rf
   simp only[eq_self]at rr rf
   simp only[Ab,Ai,Iq]
   rw[Ck g5 rfl,l1]
   simp only[Ls,I,Ai]
   by_cases h1':seq<e.first
   ·rw[show decide (seq<e.first)=true from decide_eq_true h1']
    simp only[Ab,Ai,G4,Ft]
    exact rr fun y=>by omega
   ·rw[show decide (seq<e.first)=false from decide_eq_false h1']
    simp only[Ab,Ai,G4]
    rw[Ck g5 rfl,l1]
    simp only[Ls]
    rw[Ck g5 rfl,l2]
    simp only[Ls,I,Ai]
    rw[C8 (by omega) (by omega)]
    by_cases h2':e.first<=seq-e.count
    ·rw[show decide (e.first<=seq-e.count)=true from decide_eq_true h2']
     simp only[Ab,Ai,Ft]
     exact rr fun y=>by omega
    ·rw[show decide (e.first<=seq-e.count)=false from decide_eq_false h2']
     simp only[Ab,Ai,Ft,Ug]
     rw[Fy (x7.at hb6 g14) rfl,A3 fl]
     exact rf (by rw[if_pos ⟨hr,trivial,by omega,by omega⟩])
 ·rw[if_neg hr]
  simp only[show ¬ ((10:Int)=0) by decide,not_false_eq_true,decide_true,Ab,Ai,Iq,G4,Ft]
  exact no h6 (A9.refl _) fun y=>hr y.1
end Go.Ev

namespace Go.Ev
open Go.Proofs
set_option maxRecDepth 100000
variable {K:Nat}
def En.zero:En:=⟨0,0,0,0,0,0,Bcj⟩
def Ak0(kind:Int)(p:List Nat):En:=⟨kind,Nc (p.take 6),Nc ((p.drop 6).take 1),Nc (((p.drop 6).drop 1).take 1),Nc ((((p.drop 6).drop 1).drop 1).take 2),Nc (((((p.drop 6).drop 1).drop 1).drop 2).take 2),((((((p.drop 6).drop 1).drop 1).drop 2).drop 2).take 32)⟩
def ofF(kind:Int)(p:List Nat):En × Int:=
 if (Gp (Ak0 kind p)).2=0/\(Gp (Ak0 kind p)).1=p then (Ak0 kind p,0) else (En.zero,10)
end Go.Ev

namespace Go.Ev
open Go.Proofs
set_option maxRecDepth 100000
variable {K:Nat}
def Bdn(f:Fr):En × Int:=
 if ¬ (ofF f.kind f.body).2=0 then (En.zero,(ofF f.kind f.body).2) else
 if ¬ (F4 (ofF f.kind f.body).1 f.A7 f.off f.Ax f.seq).2=0 then (En.zero,(F4 (ofF f.kind f.body).1 f.A7 f.off f.Ax f.seq).2) else ((ofF f.kind f.body).1,0)
end Go.Ev

namespace Go.Ev
open Go.Proofs
set_option maxRecDepth 100000
theorem Aoo:∀ (w a:Nat),Nc (Qx w a)=a % 256 ^ w
 | 0,a=>by simp[Qx,Nc,Nat.mod_one]
 | w+1,a=>by
  rw[Aw2,Ava,Aoo w a,Gu,Nat.mod_pow_succ]
theorem T4 {w:Nat}{v b:Int}(h0:0<=v)(hb:v<=b)(hw:b<(256 ^ w:Nat)):((Nc (Qx w v.toNat):Nat):Int)=v:=by
 rw[Aoo,Nat.mod_eq_of_lt (by omega)];omega
theorem Auf {a b:List Nat}{n:Nat}(h:a.length=n):(a++b).take n=a:=by subst h;simp
theorem Az5 {a b:List Nat}{n:Nat}(h:a.length=n):(a++b).drop n=b:=by subst h;simp
theorem A0i {f:Fr}(w:f.Wf):Ap8 (Ii f)=true:=by
 have h1:=U4 w
 have h2:=Aba w
 unfold Ap8
 rw[h1]
 apply decide_eq_true
 unfold Ii
 rw[Auf h2,Az5 h2]
theorem Auh {f:Fr}(w:f.Wf)(hr:frB f=true):T6 (Ama f)=f/\Nc (((Ama f).drop 1).take 1)=1:=by
 simp only[frB,Bool.and_eq_true]at hr
 obtain⟨r1,r2,r3,r4,r5⟩:=hr
 obtain⟨a1,b1⟩:=Ie.1 r1
 obtain⟨a2,b2⟩:=Ie.1 r2
 obtain⟨a3,b3⟩:=Ie.1 r3
 obtain⟨a4,b4⟩:=Ie.1 r4
 obtain⟨a5,b5⟩:=Ie.1 r5
 have hl:=w.len
 have t44:f.body.take 44=f.body:=List.take_of_length_le (by omega)
 unfold T6 Ama
 simp only[List.append_assoc,Auf (Gu _ _),Az5 (Gu _ _),t44]
 rw[T4 (w:=1) (by omega) b1 (by decide),T4 (w:=2) a2 b2 (by decide),T4 (w:=2) a3 b3 (by decide),T4 (w:=4) (by omega) b4 (by decide),T4 (w:=6) a5 b5 (by decide)]
 exact⟨rfl,by rw[Aoo]⟩
theorem A4i {f:Fr}(w:f.Wf)(hr:frB f=true):Rt (Ii f)=(f,0):=by
 obtain⟨e1,e2⟩:=Auh w hr
 have h2:=Aba w
 have ht:(Ii f).take 60=Ama f:=by unfold Ii;exact Auf h2
 unfold Rt
 rw[if_neg (by rw[A0i w];simp),ht,e1,if_pos ⟨e2,hr⟩]
theorem Axe {f:Fr}(w:f.Wf)(hr:frB f=true):atF (Ii f) f.A7 f.off=(f,0):=by
 unfold atF
 rw[A4i w hr]
 simp
theorem Arz {e:En}(w:e.Wf)(hr:erB e=true):Ak0 e.kind (Ns e)=e:=by
 obtain⟨⟨a1,b1⟩,⟨a2,b2⟩,⟨a3,b3⟩,⟨a4,b4⟩,⟨a5,b5⟩,_⟩:=A1a hr
 have hl:=w.len
 have t32:e.bytes.take 32=e.bytes:=List.take_of_length_le (by omega)
 unfold Ak0 Ns
 simp only[List.append_assoc,Auf (Gu _ _),Az5 (Gu _ _),t32]
 rw[T4 (w:=6) a1 b1 (by decide),T4 (w:=1) (by omega) b4 (by decide),T4 (w:=1) a2 b2 (by decide),T4 (w:=2) a5 b5 (by decide),T4 (w:=2) a3 b3 (by decide)]
theorem A4k {e:En}(w:e.Wf)(hr:erB e=true):ofF e.kind (Ns e)=(e,0):=by
 unfold ofF
 rw[Arz w hr]
 unfold Gp
 rw[if_pos hr]
 simp
theorem Ai8 {e:En}(w:e.Wf){A7 off Ax seq:Int}(h:(F4 e A7 off Ax seq).2=0):
 (F4 e A7 off Ax seq).1=⟨e.kind,A7,off,Ax,seq,Ns e⟩/\frB ⟨e.kind,A7,off,Ax,seq,Ns e⟩=true/\erB e=true/\Bdn ⟨e.kind,A7,off,Ax,seq,Ns e⟩=(e,0):=by
 by_cases hc:erB e=true/\frB ⟨e.kind,A7,off,Ax,seq,(Gp e).1⟩=true/\e.first<=seq/\seq-e.count<e.first
 ·have hb:(Gp e).1=Ns e:=by unfold Gp;rw[if_pos hc.1]
  have hf:F4 e A7 off Ax seq=(⟨e.kind,A7,off,Ax,seq,Ns e⟩,0):=by unfold F4;rw[if_pos hc,hb]
  rw[hb]at hc
  refine⟨by rw[hf],hc.2.1,hc.1,?_⟩
  unfold Bdn
  simp only[A4k w hc.1,hf]
  simp
 ·exfalso
  unfold F4 at h
  rw[if_neg hc]at h
  exact absurd h (by decide)
end Go.Ev
