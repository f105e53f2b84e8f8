import Derived.Test.YtpkcfamminlmaaaGreatXc
import Derived.Test.YtpkcfamminlmaaaGreatXb
set_option linter.unusedVariables false
set_option linter.unusedSimpArgs false
set_option linter.unusedSectionVars false
namespace Go.Ev
open Go.Proofs
set_option maxRecDepth 100000
variable {K:Nat}
abbrev Nk(k:IntKind)(a:Nat):EV:=.int k (Int.ofNat a)
theorem wrap_u8(a:Nat):Dc .u8 (Int.ofNat a)=Int.ofNat (a % 256):=by
 rw[Kv]
 rfl
theorem wrap_u32(a:Nat):Dc .u32 (Int.ofNat a)=Int.ofNat (a % 4294967296):=by
 rw[Kv]
 rfl
theorem Aih {c:IntKind}{a:Nat}{k:EV->R}:Pn .u8 (.int c (Int.ofNat a)) k=k (Nk .u8 (a % 256)):=by
 rw[Avq,wrap_u8]
theorem Aaa {t:Nat}{a:Nat}{k:EV->R}:Ng (bin TT .shr t) (.int .i64 (Int.ofNat a)) (.int .u64 8) k=k (Nk .i64 (a / 256)):=by
 show k (.int .i64 (.ofNat (Nat.shiftRight a 8)))=_
 have:Nat.shiftRight a 8=a / 256:=Nat.shiftRight_eq_div_pow a 8
 rw[this]
theorem Ail {t s:Nat}(hs:s<=32){a:Nat}{k:EV->R}:Ng (bin TT .shr t) (.int .u32 (Int.ofNat a)) (.int .u64 (Int.ofNat s)) k=k (Nk .u32 (a / 2 ^ s)):=by
 show k (.int .u32 (.ofNat (Nat.shiftRight a (An (Nat.ble s 32) s 32))))=_
 rw[Nat.ble_eq_true_of_le hs,Ak]
 have:Nat.shiftRight a s=a / 2 ^ s:=Nat.shiftRight_eq_div_pow a s
 rw[this]
theorem Ats {t:Nat}{a b:Nat}(ha:a<4294967296)(hb:b<4294967296){k:EV->R}:Ng (bin TT .xor t) (.int .u32 (Int.ofNat a)) (.int .u32 (Int.ofNat b)) k=k (Nk .u32 (a ^^^ b)):=by
 show k (.int .u32 (Dc .u32 (.ofNat (Nat.xor a b))))=_
 rw[wrap_u32]
 have:Nat.xor a b<2 ^ 32:=Nat.xor_lt_two_pow (n:=32) ha hb
 rw[Nat.mod_eq_of_lt (by exact this)];rfl
theorem A0u {t:Nat}{a b:Nat}(ha:a<256)(hb:b<256){k:EV->R}:Ng (bin TT .xor t) (.int .u8 (Int.ofNat a)) (.int .u8 (Int.ofNat b)) k=k (Nk .u8 (a ^^^ b)):=by
 show k (.int .u8 (Dc .u8 (.ofNat (Nat.xor a b))))=_
 rw[wrap_u8]
 have:Nat.xor a b<2 ^ 8:=Nat.xor_lt_two_pow (n:=8) ha hb
 rw[Nat.mod_eq_of_lt (by exact this)];rfl
def wd:Nat->Nat->Nat
 | 0,_=>1
 | f+1,a=>if a / 256=0 then 1 else wd f (a / 256)+1
theorem A2k:∀ (f a w:Nat),a<256 ^ (f+1)->1<=w->(wd f a<=w ↔ a<256 ^ w)
 | 0,a,w,h,hw=>by
  refine⟨fun _=>Nat.lt_of_lt_of_le h (Nat.pow_le_pow_right (by decide) (by omega)),fun _=>hw⟩
 | f+1,a,w,h,hw=>by
  unfold wd
  by_cases h0:a / 256=0
  ·rw[if_pos h0]
   refine⟨fun _=>?_,fun _=>hw⟩
   have:a<256:=by omega
   exact Nat.lt_of_lt_of_le this (by have:=Nat.pow_le_pow_right (n:=256) (by decide) hw;simpa using this)
  ·rw[if_neg h0]
   have ih:=A2k f (a / 256) (w-1) (by rw[Nat.pow_succ]at h;exact Nat.div_lt_of_lt_mul (by rw[Nat.mul_comm];exact h))
   by_cases h1:w=1
   ·subst h1
    refine⟨fun y=>?_,fun y=>?_⟩
    ·have:1<=wd f (a / 256):=by cases f <;> unfold wd <;> (try split) <;> omega
     omega
    ·exfalso;apply h0;simp at y;omega
   ·have ih:=ih (by omega)
    obtain⟨v,rfl⟩:∃ v,w=v+1:=⟨w-1,by omega⟩
    rw[Nat.add_sub_cancel]at ih
    rw[Nat.pow_succ]
    refine⟨fun y=>?_,fun y=>?_⟩
    ·have:=ih.1 (by omega)
     have:=Nat.div_lt_iff_lt_mul (k:=256) (x:=a) (y:=256 ^ v) (by decide)
     omega
    ·have:=ih.2 (Nat.div_lt_of_lt_mul (by rw[Nat.mul_comm];exact y))
     omega
theorem As2:∀ (f m a n:Nat) (h:Aa),f<m->a<256 ^ (f+1)->n+f<=100->f<=10 ->
 Er K m (Nk .i64 a) (Nk .i64 n) h=Ma K (Nk .i64 (a / 256 ^ (wd f a-1))) (Nk .i64 (n+wd f a-1)) h:=by
 intro f
 induction f with
 | zero=>
  intro m a n h hm ha hn hf
  obtain⟨m,rfl⟩:∃ k,m=k+1:=⟨m-1,by omega⟩
  have:a / 256=0:=by simp at ha;omega
  simp only[Er]
  rw[Aaa,this]
  simp only[Nk,Ah]
  rw[show decide ((0:Int)<Int.ofNat 0)=false from rfl]
  simp only[Ab,wd,Nat.sub_self,Nat.pow_zero,Nat.div_one,Nat.add_sub_cancel]
 | succ f ih=>
  intro m a n h hm ha hn hf
  obtain⟨m,rfl⟩:∃ k,m=k+1:=⟨m-1,by omega⟩
  simp only[Er]
  rw[Aaa]
  simp only[Nk,Ah]
  unfold wd
  by_cases h0:a / 256=0
  ·rw[if_pos h0,h0]
   rw[show decide ((0:Int)<Int.ofNat 0)=false from rfl]
   simp only[Ab,Nat.sub_self,Nat.pow_zero,Nat.div_one,Nat.add_sub_cancel]
  ·rw[if_neg h0,show decide ((0:Int)<Int.ofNat (a / 256))=true from decide_eq_true (by show (0:Int)<((a / 256:Nat):Int);omega)]
   simp only[Ab,Aav]
   rw[Aaa]
   simp only[Nk,Ah]
   rw[show Dc .i64 (Int.ofNat n+1)=Int.ofNat (n+1) from Cu (by show _<=((n:Nat):Int)+1;omega) (by show ((n:Nat):Int)+1<=_;omega)]
   have e:=ih m (a / 256) (n+1) h (by omega) (Nat.div_lt_of_lt_mul (by rw[Nat.mul_comm,<-Nat.pow_succ];exact ha)) (by omega) (by omega)
   rw[e]
   have hw:1<=wd f (a / 256):=by cases f <;> unfold wd <;> (try split) <;> omega
   obtain⟨u,hu⟩:∃ u,wd f (a / 256)=u+1:=⟨wd f (a / 256)-1,by omega⟩
   rw[hu,Nat.add_sub_cancel,show u+1+1-1=u+1 from rfl,Nat.pow_succ',Nat.div_div_eq_div_mul,show n+1+(u+1)-1=n+(u+1+1)-1 by omega]
def T4(a:Nat):Nat:=if 7<wd 7 a then 8 else wd 7 a
theorem Amd {a:Nat}(ha:a<9223372036854775808)(hK:1000<K)(h:Aa):L7 K (.int .i64 (Int.ofNat a)) h=some (Nk .i64 (T4 a),h):=by
 unfold L7 T4
 have e:=As2 (K:=K) 7 K a 1 h (by omega) (Nat.lt_trans ha (by decide)) (by decide) (by decide)
 have:(EV.int .i64 1)=Nk .i64 1:=rfl
 rw[this,e]
 have hw:1<=wd 7 a:=by unfold wd;split <;> omega
 simp only[Ma,Nk,Ah]
 rw[show decide (Int.ofNat (a / 256 ^ (wd 7 a-1))<0)=false from decide_eq_false (by show ¬ (((a / 256 ^ (wd 7 a-1):Nat):Int)<0);exact Int.not_lt.2 (Int.natCast_nonneg _))]
 rw[show 1+wd 7 a-1=wd 7 a by omega]
 by_cases h7:7<wd 7 a
 ·rw[show decide ((7:Int)<Int.ofNat (wd 7 a))=true from decide_eq_true (by show (7:Int)<((wd 7 a:Nat):Int);omega),if_pos h7]
  simp only[Ab,Lw]
  rfl
 ·rw[show decide ((7:Int)<Int.ofNat (wd 7 a))=false from decide_eq_false (by show ¬ ((7:Int)<((wd 7 a:Nat):Int));omega),if_neg h7]
  simp only[Ab,Lw,Z5]
theorem Av5 {a:Nat}(hK:1000<K)(h:Aa):L7 K (.int .i64 (Int.negSucc a)) h=some (I 8,h):=by
 obtain⟨m,rfl⟩:∃ k,K=k+1:=⟨K-1,by omega⟩
 unfold L7
 simp only[Er]
 have e:∀ k:EV->R,Ng (bin TT .shr 3) (.int .i64 (Int.negSucc a)) (.int .u64 8) k=k (.int .i64 ((Int.negSucc a).fdiv 256)):=fun k=>rfl
 have hneg:(Int.negSucc a).fdiv 256<0:=by
  rw[Int.fdiv_eq_ediv_of_nonneg _ (by decide)]
  have:Int.negSucc a<0:=Int.negSucc_lt_zero a
  omega
 rw[e]
 simp only[Ah]
 rw[show decide ((0:Int)<(Int.negSucc a).fdiv 256)=false from decide_eq_false (by omega)]
 simp only[Ab,Ma,Ah]
 rw[show decide (Int.negSucc a<0)=true from decide_eq_true (Int.negSucc_lt_zero a)]
 simp only[Ab,Lw,I]
theorem Amy {a w:Nat}(ha:a<9223372036854775808)(h1:1<=w)(h7:w<=7):T4 a<=w ↔ a<256 ^ w:=by
 have:=A2k 7 a w (Nat.lt_trans ha (by decide)) h1
 rw[<-this]
 unfold T4
 split <;> omega
def Sg(w a:Nat):List Nat:=(List.range w).map fun i=>a / 256 ^ i % 256
theorem Ard(w a:Nat):Sg (w+1) a=Sg w a++[a / 256 ^ w % 256]:=by unfold Sg;rw[List.range_succ,List.map_append];rfl
theorem Mn(w a:Nat):(Sg w a).length=w:=by simp[Sg]
theorem Afn(a b:List Nat):I6 (a++b)=I6 a++I6 b:=List.map_append
theorem Fh(a:List Nat):(I6 a).length=a.length:=List.length_map _
structure Aoe(h:Aa)(P t:Nat)(out:List Nat)(bad:Bool):Prop where
 Rk:∃ s q,h.get P=some (.cells [s,.bool bad] t)/\Bx h s q 5 1 out.length (I6 out)/\(0<out.length->P<q)
theorem Yl(n:Int)(h:Aa):Pc K (I n) h=some (.bool (decide (1<=n/\n<=7)),h):=by
 simp only[Pc,I,Ah,Ab]
 by_cases h1:1<=n
 ·simp only[h1,decide_true,Ab,Ah,No,true_and]
 ·simp only[h1,decide_false,Ab,No,false_and]
theorem A0b {P t w:Nat}{bad:Bool}{a:Nat}(ha:a<9223372036854775808)(hw:w<=7){out:List Nat}(ho:out.length<=60000)(h0:Aa)(hP:P<h0.next):∀ (m i:Nat) (h:Aa),w-i<m->i<=w->HB h->A6 (fun i=>P<=i) h0 h->Aoe h P t (out++Sg i a) bad ->
 Ok (Dk K m (.ptr P 0) (Nk .i64 (a / 256 ^ i)) (I w) (I i) h) fun _ h'=>Aoe h' P t (out++Sg w a) bad/\A6 (fun i=>P<=i) h0 h'/\HB h':=by
 intro m
 induction m with
 | zero=>intro i h hm;omega
 | succ m ih=>
  intro i h hm hi hb c p
  obtain⟨s,q,g,r,l⟩:=p.Rk
  simp only[Dk,I,Ah,Ab]
  by_cases hlt:(i:Int)<w
  ·simp only[hlt,decide_true,Ab,Qf,Cn g rfl]
   rw[wrap_u8]
   have hlen:(out++Sg i a).length=out.length+i:=by rw[List.length_append,Mn]
   refine Mc (z:=[.int .u8 0]) r hb rfl rfl rfl (by omega) (by omega) ?_
   intro h2 r2 n2 c2
   have gq:¬ (0<(out++Sg i a).length/\P=q):=fun y=>by have:=l y.1;omega
   have g2:=c2.at hb g gq
   have lP:=(c2.hb hb) _ _ g2
   refine Ok.st1 g2 rfl rfl (by show 0<2;decide) ?_
   rw[Aaa]
   simp only[P0,I,Ah]
   rw[Cu (by omega) (by omega),Nat.div_div_eq_div_mul,<-Nat.pow_succ]
   have c3:A6 (fun i=>P<=i) h (h2.put P (.cells ([s,EV.bool bad].set 0 (.slice (h.next+1) 0 ((out++Sg i a).length+1) ((out++Sg i a).length+1) true)) t)):=(c2.mono fun j hj=>by have:=l hj.1;show P<=j;omega).A3 (.inl (Nat.le_refl _)) lP _
   refine ih (i+1) _ (by omega) (by omega) ((c2.hb hb).put lP _) (c.trans c3) ?_
   rw[Ard,<-List.append_assoc]
   refine⟨_,h.next+1,Ai _ _ _,?_,fun _=>by have:=c.next;omega⟩
   have e1:((out++Sg i a)++[a / 256 ^ i % 256]).length=(out++Sg i a).length+1:=by rw[List.length_append];rfl
   have e2:I6 ((out++Sg i a)++[a / 256 ^ i % 256])=I6 (out++Sg i a)++EV.cells (Nk .u8 (a / 256 ^ i % 256)):=by rw[Afn];rfl
   rw[e1,e2]
   refine r2.frame fun _=>Am _ ?_
   have:=hb _ _ g;omega
  ·have:i=w:=by omega
   subst this
   simp only[hlt,decide_false,Ab]
   exact .ret ⟨p,c,hb⟩
def fits(w:Nat)(v:Int):Bool:=decide (0<=v/\v<(256 ^ w:Nat))
theorem P9 {P t w:Nat}{bad:Bool}{out:List Nat}(hK:1000<K){h:Aa}(p:Aoe h P t out bad)(hb:HB h)(ho:out.length<=60000)(h1:1<=w)(h7:w<=7){v:Int}(hv : -9223372036854775808<=v/\v<=9223372036854775807):
 Ok (Bb K (.ptr P 0) (I w) (I v) h) fun _ h'=>Aoe h' P t (if fits w v=true then out++Sg w v.toNat else out) (bad || !fits w v)/\A6 (fun i=>P<=i) h h'/\HB h':=by
 obtain⟨s,q,g,r,l⟩:=p.Rk
 have lP:=hb _ _ g
 simp only[Bb]
 rw[Yl,decide_eq_true ⟨by omega,by omega⟩]
 simp only[Ab,Ah]
 have no:fits w v=false->Ok (Jq 1 (.ptr P 1) (.bool true) h fun h=>some (.tuple [],h)) fun _ h'=>Aoe h' P t (if fits w v=true then out++Sg w v.toNat else out) (bad || !fits w v)/\A6 (fun i=>P<=i) h h'/\HB h':=by
  intro hf
  refine Ok.st1 g rfl rfl (by show 1<2;decide) ?_
  refine .ret ⟨?_,(A6.refl (S:=fun i=>P<=i) h).A3 (.inl (Nat.le_refl _)) lP _,hb.put lP _⟩
  rw[hf,if_neg (by simp),Bool.not_false,Bool.or_true]
  exact⟨s,q,Ai _ _ _,r.frame fun y=>Am _ (by have:=l y;omega),l⟩
 cases v with
 | negSucc a=>
  unfold I
  rw[Av5 hK,A2]
  simp only[I,Ah]
  rw[show decide ((w:Int)<8)=true from decide_eq_true (by omega)]
  simp only[Ab,Hr]
  exact no (decide_eq_false fun y=>absurd y.1 (by have:=Int.negSucc_lt_zero a;omega))
 | ofNat a=>
  have ha:a<9223372036854775808:=by have:((a:Nat):Int)<=9223372036854775807:=hv.2;omega
  unfold I
  rw[Amd ha hK,A2]
  have hfit:=Amy ha h1 h7
  simp only[Nk,Ah]
  by_cases hw:T4 a<=w
  ·have hf:fits w (Int.ofNat a)=true:=decide_eq_true ⟨Int.natCast_nonneg a,by have:=hfit.1 hw;exact Int.ofNat_lt.2 this⟩
   rw[show decide ((w:Int)<Int.ofNat (T4 a))=false from decide_eq_false (by show ¬ (w:Int)<((T4 a:Nat):Int);omega)]
   simp only[Ab,Hr,P8]
   have:=A0b (K:=K) (P:=P) (t:=t) (w:=w) (bad:=bad) ha h7 ho h lP K 0 h (by omega) (Nat.zero_le _) hb (A6.refl _) (by simpa [Sg] using p)
   rw[Nat.pow_zero,Nat.div_one]at this
   rw[hf,if_pos rfl,Bool.not_true,Bool.or_false]
   exact this
  ·rw[show decide ((w:Int)<Int.ofNat (T4 a))=true from decide_eq_true (by show (w:Int)<((T4 a:Nat):Int);omega)]
   simp only[Ab,Hr]
   exact no (decide_eq_false fun y=>hw (hfit.2 (Int.ofNat_lt.1 y.2)))
theorem An6 {P t n:Nat}{bad:Bool}{out new:List Nat}{h:Aa}(p:Aoe h P t out bad)(hb:HB h)(ho:out.length<=60000){x:EV}(hx:lenOf x=some n)(h0:0<n)(hn:n<=5000)(hc:M0 h 1 n x=some (I6 new))(hl:new.length=n):
 Ok (Ns K (.ptr P 0) x h) fun _ h'=>Aoe h' P t (out++new) bad/\A6 (fun i=>P<=i) h h'/\HB h':=by
 obtain⟨s,q,g,r,l⟩:=p.Rk
 have lP:=hb _ _ g
 simp only[Ns,Ab,Cn g rfl]
 obtain⟨h2,e,r2,n2,c2⟩:=Qb r hx h0 (by omega) (by omega) hc (by rw[Fh,hl,Nat.mul_one])
 rw[e,A2]
 have gq:¬ (0<out.length/\P=q):=fun y=>by have:=l y.1;omega
 have g2:=c2.at hb g gq
 have lP2:=(c2.hb hb) _ _ g2
 try simp only[Ab]
 refine Ok.st1 g2 rfl rfl (by show 0<2;decide) ?_
 refine .ret ⟨⟨_,h.next,Ai _ _ _,?_,fun _=>by omega⟩,(c2.mono fun j hj=>by have:=l hj.1;show P<=j;omega).A3 (.inl (Nat.le_refl _)) lP2 _,(c2.hb hb).put lP2 _⟩
 rw[List.length_append,hl,Afn]
 exact r2.frame fun _=>Am _ (by omega)
end Go.Ev

namespace Go.Ev
open Go.Proofs
set_option maxRecDepth 100000
variable {K:Nat}
structure Bs(h:Aa)(x:EV)(b off:Nat)(l:List Nat):Prop where
 Rk:∃ r op o row,x=.slice b off l.length r op/\l.length<=r/\h.get b=some o/\rowOf o=some row/\off+l.length<=row.length/\(row.drop off).take l.length=I6 l
theorem Bs.frame {h h':Aa}{x:EV}{b off:Nat}{l:List Nat}(s:Bs h x b off l)(e:h'.get b=h.get b):Bs h' x b off l:=by
 obtain⟨r,op,o,row,e1,e0,e2,e3,e4,e5⟩:=s.Rk
 exact⟨r,op,o,row,e1,e0,by rw[e];exact e2,e3,e4,e5⟩
theorem Bs.lt {h:Aa}{x:EV}{b off:Nat}{l:List Nat}(s:Bs h x b off l)(hb:HB h):b<h.next:=by
 obtain⟨r,op,o,row,e1,e0,e2,e3,e4,e5⟩:=s.Rk
 exact hb _ _ e2
theorem Bs.ext {h h':Aa}{x:EV}{b off:Nat}{l:List Nat}(s:Bs h x b off l)(hb:HB h)(c:Ext h h'):Bs h' x b off l:=s.frame (c.get _ (s.lt hb) id)
theorem Bs.len {h:Aa}{x:EV}{b off:Nat}{l:List Nat}(s:Bs h x b off l):lenOf x=some l.length:=by
 obtain⟨r,op,o,row,rfl,_⟩:=s.Rk;rfl
theorem Bs.I4 {h:Aa}{x:EV}{b off:Nat}{l:List Nat}(s:Bs h x b off l)(k:EV->R):Ev.I4 x k=k (I l.length):=by
 obtain⟨r,op,o,row,rfl,_⟩:=s.Rk;rfl
theorem Bs.cells {h:Aa}{x:EV}{b off:Nat}{l:List Nat}(s:Bs h x b off l):M0 h 1 l.length x=some (I6 l):=by
 obtain⟨r,op,o,row,rfl,e0,e2,e3,e4,e5⟩:=s.Rk
 show An (Nat.beq l.length 0) (some []) (Tv h b off (Nat.mul l.length 1))=_
 rw[show Nat.mul l.length 1=l.length from Nat.mul_one _]
 have hc:N0 row off l.length=some (I6 l):=by rw[K2 e4,e5]
 cases hl:l with
 | nil=>rfl
 | cons a r=>
  rw[show Nat.beq (a::r).length 0=false from rfl,Ax]
  unfold Tv
  rw[e2,<-hl]
  cases o <;> first|(cases e3;done)|(cases e3;exact hc)
theorem Bs.ix {h:Aa}{x:EV}{b off:Nat}{l:List Nat}(s:Bs h x b off l){i:Nat}(hi:i<l.length):(∀ k:EV->R,I5 1 x (.int .i64 (i:Int)) k=k (.ptr b (off+i)))/\(∀ k:EV->R,Aq (.ptr b (off+i)) h k=k (Nk .u8 l[i])):=by
 obtain⟨r,op,o,row,rfl,e0,e2,e3,e4,e5⟩:=s.Rk
 refine⟨fun k=>by rw[Vq hi,Nat.mul_one],fun k=>?_⟩
 rw[Cn e2 e3]
 have:row[off+i]? = some (Nk .u8 l[i]):=by
  have e5:=congrArg (fun z=>z[i]?) e5
  simp only[List.getElem?_take,hi,if_true,List.getElem?_drop]at e5
  rw[e5]
  unfold I6
  rw[List.getElem?_map,List.getElem?_eq_getElem hi];rfl
 rw[this];rfl
theorem Bx.bs {h:Aa}{s:EV}{q:Nat}{l:List Nat}(r:Bx h s q 5 1 l.length (I6 l))(hl:0<l.length):Bs h s q 0 l:=by
 refine⟨l.length,true,_,I6 l,r.slice hl,Nat.le_refl _,r.block hl,rfl,by rw[Fh,Nat.zero_add];exact Nat.le_refl _,?_⟩
 rw[List.drop_zero,<-Fh,List.take_length]
def A43:EV->Nat
 | .int _ x=>x.toNat
 | _=>0
noncomputable def Arx:List Nat:=Bc.map A43
theorem Avw:Bc=Arx.map (Nk .u32):=by kernel_rfl
theorem A2w:Arx.all (fun n=>Nat.blt n 4294967296)=true:=by kernel_rfl
theorem A2h:Arx.length=256:=by kernel_rfl
noncomputable def Am1(r c:Nat):Nat:=(r / 256) ^^^ (Arx[(r % 256) ^^^ c]?).getD 0
theorem As4 {i:Nat}(hi:i<256):Bc[i]? = some (Nk .u32 ((Arx[i]?).getD 0))/\(Arx[i]?).getD 0<4294967296:=by
 have hi':i<Arx.length:=by rw[A2h];exact hi
 rw[Avw,List.getElem?_map,List.getElem?_eq_getElem hi']
 refine⟨rfl,?_⟩
 have:=List.all_eq_true.1 A2w _ (List.getElem_mem hi')
 exact Nat.le_of_ble_eq_true this
theorem A13 {r c:Nat}(hr:r<4294967296)(hc:c<256):Am1 r c<4294967296:=by
 unfold Am1
 have h1:(r % 256) ^^^ c<2 ^ 8:=Nat.xor_lt_two_pow (n:=8) (Nat.mod_lt _ (by decide)) hc
 exact Nat.xor_lt_two_pow (n:=32) (by show r / 256<4294967296;omega) (As4 h1).2
theorem A2a {h:Aa}{r c:Nat}(hr:r<4294967296)(hc:c<256):Ok (Lx K Ss (Nk .u32 r) (Nk .u8 c) h) fun v h'=>v=Nk .u32 (Am1 r c)/\Ext h h':=by
 unfold Ss
 simp only[Lx,Ab]
 have g3:(h.new (.cells Bc 72)).get h.next=some (.cells Bc 72):=Ae _ _
 have x1:Ext h (h.new (.cells Bc 72)):=A6.new _ _
 generalize h.new (.cells Bc 72)=h1 at g3 x1 ⊢
 rw[show ∀ k:EV->R,Ng (bin TT .shr 70) (Nk .u32 r) (.int .u64 8) k=k (Nk .u32 (r / 256)) from fun k=>Ail (s:=8) (by decide)]
 have h1':(r % 256) ^^^ c<256:=Nat.xor_lt_two_pow (n:=8) (Nat.mod_lt _ (by decide)) hc
 rw[wrap_u8,A0u (Nat.mod_lt _ (by decide)) hc,show ∀ k:EV->R,Uj 256 1 (.ptr h.next 0) (Nk .u8 ((r % 256) ^^^ c)) k=k (.ptr h.next (0+((r % 256) ^^^ c)*1)) from fun k=>Nn h1']
 rw[Cn g3 rfl,Nat.zero_add,Nat.mul_one,(As4 h1').1]
 simp only[Su]
 rw[Ats (by omega) (As4 h1').2]
 exact .ret ⟨rfl,x1⟩
noncomputable def Ahg(r:Nat)(l:List Nat):Nat:=l.foldl Am1 r
theorem Am7:∀ (l:List Nat) (r:Nat),r<4294967296->(∀ b ∈ l,b<256)->Ahg r l<4294967296
 | [],r,hr,_=>hr
 | c::l,r,hr,hl=>Am7 l (Am1 r c) (A13 hr (hl c (List.mem_cons_self ..))) fun b hb=>hl b (List.mem_cons_of_mem _ hb)
theorem Ave {T b off:Nat}{x:EV}{l:List Nat}(hl:∀ b ∈ l,b<256)(hn:l.length<=5000){r0:Nat}(h0:r0<4294967296):∀ (m i:Nat) (h:Aa),l.length-i<m->i<=l.length->HB h->h.get T=some (.cells Bc 72)->Bs h x b off l ->
 Ok (Eo K m (.ptr T 0) (Nk .u32 (Ahg r0 (l.take i))) x (I l.length) (I i) h) fun v h'=>v=Nk .u32 (Ahg r0 l)/\Ext h h':=by
 intro m
 induction m with
 | zero=>intro i h hm;omega
 | succ m ih=>
  intro i h hm hi hb gT s
  simp only[Eo,I,Ah,Ab]
  by_cases hlt:(i:Int)<l.length
  ·have hin:i<l.length:=by omega
   obtain⟨e1,e2⟩:=s.ix hin
   simp only[hlt,decide_true,Ab,Us,e1,e2,F2 gT rfl]
   rw[Aw Uo]
   simp only[Su]
   have htk:∀ b ∈ l.take i,b<256:=fun b hb=>hl b (List.mem_of_mem_take hb)
   refine(A2a (K:=K) (Am7 _ _ h0 htk) (hl _ (List.getElem_mem hin))).Aj ?_
   rintro _ h1 ⟨rfl,x1⟩
   simp only[Va,I,Ah]
   rw[Cu (by omega) (by omega)]
   have e:Am1 (Ahg r0 (l.take i)) l[i]=Ahg r0 (l.take (i+1)):=by
    unfold Ahg
    rw[List.take_add_one,List.foldl_append,List.getElem?_eq_getElem hin];rfl
   rw[e]
   refine(ih (i+1) h1 (by omega) (by omega) (x1.hb hb) (x1.at hb gT) (s.ext hb x1)).mono ?_
   rintro v h' ⟨e,x2⟩
   exact⟨e,x1.trans x2⟩
  ·have:i=l.length:=by omega
   subst this
   simp only[hlt,decide_false,Ab,Ox,List.take_length]
   exact .ret ⟨rfl,A6.refl _⟩
noncomputable def H9(l:List Nat):Nat:=Ahg 4294967295 l ^^^ 4294967295
theorem A3d {h:Aa}{x:EV}{b off:Nat}{l:List Nat}(hK:10000<K)(s:Bs h x b off l)(hb:HB h)(hl:∀ b ∈ l,b<256)(hn:l.length<=5000):Ok (Qn K Ss x h) fun v h'=>v=Nk .u32 (H9 l)/\Ext h h':=by
 unfold Ss
 simp only[Qn,Ab]
 have g3:(h.new (.cells Bc 72)).get h.next=some (.cells Bc 72):=Ae _ _
 have x1:Ext h (h.new (.cells Bc 72)):=A6.new _ _
 generalize h.new (.cells Bc 72)=h1 at g3 x1 ⊢
 have s1:=s.ext hb x1
 simp only[T9,s1.I4]
 refine(Ave (K:=K) hl hn (r0:=4294967295) (by decide) K 0 h1 (by omega) (Nat.zero_le _) (x1.hb hb) g3 s1).Aj ?_
 rintro _ h2 ⟨rfl,x2⟩
 rw[show ∀ k:EV->R,Ng (bin TT .xor 70) (Nk .u32 (Ahg 4294967295 l)) (.int .u32 4294967295) k=k (Nk .u32 (H9 l)) from fun k=>Ats (b:=4294967295) (Am7 l _ (by decide) hl) (by decide)]
 exact .ret ⟨rfl,x1.trans x2⟩
end Go.Ev

namespace Go.Ev
open Go.Proofs
set_option maxRecDepth 100000
variable {K:Nat}
theorem Bx.cells {h:Aa}{s:EV}{q:Nat}{l:List Nat}(r:Bx h s q 5 1 l.length (I6 l)):M0 h 1 l.length s=some (I6 l):=by
 rcases Nat.eq_zero_or_pos l.length with h0|hp
 ·have:l = []:=List.length_eq_zero_iff.1 h0
  subst this
  rcases r with ⟨_,_,rfl|⟨b,rfl⟩⟩|⟨y,_⟩
  ·rfl
  ·rfl
  ·exact absurd y (Nat.lt_irrefl _)
 ·exact(r.bs hp).cells
theorem Ag7 {h:Aa}{P t q:Nat}{s:EV}{out:List Nat}(g:h.get P=some (.cells [s,.bool false] t))(r:Bx h s q 5 1 out.length (I6 out))(hb:HB h)(ho:out.length<=60000):
 Ok (Kz K (.ptr P 0) h) fun v h'=>∃ y q',v=.tuple [y,I 0]/\Bx h' y q' 5 1 out.length (I6 out)/\Ext h h'/\HB h'/\(0<out.length->h.next<=q'):=by
 simp only[Kz,Ab,Cn g rfl,Wi]
 rw[show B4 [(.int .u8 0)] 5 1 0 [] h=some (.slice h.next 0 0 0 false,h.new (.cells [] 5)) from rfl,A2]
 have x1:Ext h (h.new (.cells [] 5)):=A6.new _ _
 have g1:=x1.at hb g
 have r1:Bx (h.new (.cells [] 5)) s q 5 1 out.length (I6 out):=r.frame fun y=>x1.get _ (hb _ _ (r.block y)) id
 generalize h.new (.cells [] 5)=h1 at x1 g1 r1 ⊢
 simp only[Ab,Cn g1 rfl]
 refine(Wy (b:=h.next) (e:=5) r1.len (by omega) r1.cells (by rw[Fh,Nat.mul_one]) 0).Aj ?_
 rintro v h2 ⟨q',r2,x2,l2⟩
 refine .ret ⟨v,q',rfl,r2,x1.trans x2,(x1.trans x2).hb hb,fun y=>?_⟩
 have:=l2 y
 have:=x1.next
 omega
theorem As5 {h:Aa}{P t:Nat}{out:List Nat}(p:Aoe h P t out false)(hb:HB h)(ho:out.length<=60000):
 Ok (Kz K (.ptr P 0) h) fun v h'=>∃ y q',v=.tuple [y,I 0]/\Bx h' y q' 5 1 out.length (I6 out)/\Ext h h'/\HB h'/\(0<out.length->h.next<=q'):=by
 obtain⟨s,q,g,r,_⟩:=p.Rk
 exact Ag7 g r hb ho
theorem A6u(s:Nat):Sg 4 s = [s % 256,s / 256 % 256,s / 65536 % 256,s / 16777216 % 256]:=by
 simp[Sg,List.range_succ]
theorem A3c(a b c d:Int)(h:Aa):B4 [(.int .u8 0)] 5 1 4 [(0,.int .u8 a),(1,.int .u8 b),(2,.int .u8 c),(3,.int .u8 d)] h=some (.slice h.next 0 4 4 false,h.new (.cells [.int .u8 a,.int .u8 b,.int .u8 c,.int .u8 d] 5)):=rfl
theorem A1u {h:Aa}{x:EV}{b off:Nat}{l:List Nat}(hK:10000<K)(s:Bs h x b off l)(hb:HB h)(hl:∀ b ∈ l,b<256)(h0:0<l.length)(hn:l.length<=5000):
 Ok (O7 K Ss x h) fun v h'=>∃ q',Bx h' v q' 5 1 (l++Sg 4 (H9 l)).length (I6 (l++Sg 4 (H9 l)))/\Ext h h'/\HB h'/\h.next<=q':=by
 unfold Ss
 simp only[O7,Ab]
 have g3:(h.new (.cells Bc 72)).get h.next=some (.cells Bc 72):=Ae _ _
 have x1:Ext h (h.new (.cells Bc 72)):=A6.new _ _
 generalize h.new (.cells Bc 72)=h1 at g3 x1 ⊢
 have hb1:=x1.hb hb
 rw[F2 g3 rfl,Aw Uo]
 simp only[Su]
 refine(A3d (K:=K) hK (s.ext hb x1) hb1 hl hn).Aj ?_
 rintro _ h2 ⟨rfl,x2⟩
 have hb2:=x2.hb hb1
 have s2:=(s.ext hb x1).ext hb1 x2
 rw[show B4 [(.int .u8 0)] 5 1 0 [] h2=some (.slice h2.next 0 0 0 false,h2.new (.cells [] 5)) from rfl,A2]
 have x3:Ext h2 (h2.new (.cells [] 5)):=A6.new _ _
 have s3:=s2.ext hb2 x3
 have n3:(h2.new (.cells [] 5)).next=h2.next+1:=rfl
 generalize h2.new (.cells [] 5)=h3 at x3 s3 n3 ⊢
 have hb3:=x3.hb hb2
 refine(Wy (b:=h2.next) (e:=5) s3.len (by omega) s3.cells (by rw[Fh,Nat.mul_one]) 0).Aj ?_
 rintro v h4 ⟨q',r4,x4,l4⟩
 have hb4:=x4.hb hb3
 rw[show ∀ k:EV->R,Pn .u8 (Nk .u32 (H9 l)) k=k (Nk .u8 (H9 l % 256)) from fun k=>Aih]
 rw[show ∀ k:EV->R,Ng (bin TT .shr 70) (Nk .u32 (H9 l)) (.int .u64 8) k=k (Nk .u32 (H9 l / 256)) from fun k=>Ail (s:=8) (by decide)]
 rw[show ∀ k:EV->R,Pn .u8 (Nk .u32 (H9 l / 256)) k=k (Nk .u8 (H9 l / 256 % 256)) from fun k=>Aih]
 rw[show ∀ k:EV->R,Ng (bin TT .shr 70) (Nk .u32 (H9 l)) (.int .u64 16) k=k (Nk .u32 (H9 l / 65536)) from fun k=>Ail (s:=16) (by decide)]
 rw[show ∀ k:EV->R,Pn .u8 (Nk .u32 (H9 l / 65536)) k=k (Nk .u8 (H9 l / 65536 % 256)) from fun k=>Aih]
 rw[show ∀ k:EV->R,Ng (bin TT .shr 70) (Nk .u32 (H9 l)) (.int .u64 24) k=k (Nk .u32 (H9 l / 16777216)) from fun k=>Ail (s:=24) (by decide)]
 rw[show ∀ k:EV->R,Pn .u8 (Nk .u32 (H9 l / 16777216)) k=k (Nk .u8 (H9 l / 16777216 % 256)) from fun k=>Aih]
 rw[A3c,A2]
 have x5:Ext h4 (h4.new (.cells (I6 (Sg 4 (H9 l))) 5)):=A6.new _ _
 have e5:I6 (Sg 4 (H9 l)) = [Nk .u8 (H9 l % 256),Nk .u8 (H9 l / 256 % 256),Nk .u8 (H9 l / 65536 % 256),Nk .u8 (H9 l / 16777216 % 256)]:=by rw[A6u];rfl
 rw[e5]at x5
 have r5:Bx (h4.new (.cells [Nk .u8 (H9 l % 256),Nk .u8 (H9 l / 256 % 256),Nk .u8 (H9 l / 65536 % 256),Nk .u8 (H9 l / 16777216 % 256)] 5)) v q' 5 1 l.length (I6 l):=r4.frame fun y=>x5.get _ (hb4 _ _ (r4.block y)) id
 have g5:(h4.new (.cells [Nk .u8 (H9 l % 256),Nk .u8 (H9 l / 256 % 256),Nk .u8 (H9 l / 65536 % 256),Nk .u8 (H9 l / 16777216 % 256)] 5)).get h4.next=some (.cells [Nk .u8 (H9 l % 256),Nk .u8 (H9 l / 256 % 256),Nk .u8 (H9 l / 65536 % 256),Nk .u8 (H9 l / 16777216 % 256)] 5):=Ae _ _
 have n5:(h4.new (.cells [Nk .u8 (H9 l % 256),Nk .u8 (H9 l / 256 % 256),Nk .u8 (H9 l / 65536 % 256),Nk .u8 (H9 l / 16777216 % 256)] 5)).next=h4.next+1:=rfl
 generalize h4.new (.cells [Nk .u8 (H9 l % 256),Nk .u8 (H9 l / 256 % 256),Nk .u8 (H9 l / 65536 % 256),Nk .u8 (H9 l / 16777216 % 256)] 5)=h5 at x5 r5 g5 n5 ⊢
 have hc5:M0 h5 1 4 (.slice h4.next 0 4 4 false)=some (I6 (Sg 4 (H9 l))):=by
  show Tv h5 h4.next 0 4=_
  unfold Tv Ut
  rw[g5,e5];rfl
 obtain⟨h6,e6,r6,n6,c6⟩:=Qb r5 rfl (by decide) (by decide) (by omega) hc5 (by rw[Fh,Mn])
 rw[e6,A2]
 have hq:=l4 h0
 have x16:Ext h h6:=by
  refine((x1.trans x2).trans ((x3.trans x4).trans x5)).then c6 fun j hj hlt=>?_
  have:=x1.next;have:=x2.next;have:=hj.2;omega
 refine .ret ⟨h5.next,?_,x16,x16.hb hb,?_⟩
 ·rw[Afn,List.length_append,Mn];exact r6
 ·have:=x1.next;have:=x2.next;have:=x4.next;omega
end Go.Ev

namespace Go.Ev
open Go.Proofs
set_option maxRecDepth 100000
variable {K:Nat}
end Go.Ev

namespace Go.Ev
open Go.Proofs
set_option maxRecDepth 100000
variable {K:Nat}
structure Fr where
 kind:Int
 B5:Int
 off:Int
 Jv:Int
 seq:Int
 body:List Nat
def Fr.cells(f:Fr):List EV:=[I f.kind,I f.B5,I f.off,I f.Jv,I f.seq]++I6 f.body
structure Fr.Wf(f:Fr):Prop where
 len:f.body.length=44
 u8:∀ b ∈ f.body,b<256
def frB(f:Fr):Bool:=wi f.kind 1 5 && (wi f.B5 0 65535 && (wi f.off 0 65535 && (wi f.Jv 1 4294967295 && wi f.seq 0 281474976710655)))
theorem Ko(n a b:Int)(h:Aa):It K (.int .i64 n) (.int .i64 a) (.int .i64 b) h=some (.bool (wi n a b),h):=by
 simp only[It,Ah,Ab]
 by_cases h1:a<=n
 ·simp only[h1,decide_true,Ab,Ah,Np,wi,Bool.true_and]
 ·simp only[h1,decide_false,Ab,Np,wi,Bool.false_and]
theorem Fr.Ib {f:Fr}(w:f.Wf):f.cells.length=49:=by
 unfold Fr.cells;rw[List.length_append,Fh,w.len];rfl
theorem Ako {h:Aa}(f:Fr):Ok (Lr K (.agg f.cells) h) fun v h'=>v=.bool (frB f)/\Ext h h':=by
 simp only[Lr,Ab]
 have x1:Ext h (h.new (.cells f.cells 120)):=A6.new _ _
 have g1:(h.new (.cells f.cells 120)).get h.next=some (.cells f.cells 120):=Ae _ _
 generalize h.new (.cells f.cells 120)=h1 at x1 g1 ⊢
 have l0:f.cells[0]? = some (I f.kind):=rfl
 have l1:f.cells[1]? = some (I f.B5):=rfl
 have l2:f.cells[2]? = some (I f.off):=rfl
 have l3:f.cells[3]? = some (I f.Jv):=rfl
 have l4:f.cells[4]? = some (I f.seq):=rfl
 simp only[Cn g1 rfl,Ab,l0,I,Ko,Ah]
 unfold frB
 cases wi f.kind 1 5 with
 | false=>simp only[Ab,Ij,Gp,E6,D5,Ah];exact .ret ⟨rfl,x1⟩
 | true=>
 simp only[Ab,Cn g1 rfl,l1,I,Ko,Ah,Ij]
 cases wi f.B5 0 65535 with
 | false=>simp only[Ab,Gp,E6,D5,Ah];exact .ret ⟨rfl,x1⟩
 | true=>
 simp only[Ab,Cn g1 rfl,l2,I,Ko,Ah,Gp]
 cases wi f.off 0 65535 with
 | false=>simp only[Ab,E6,D5,Ah];exact .ret ⟨rfl,x1⟩
 | true=>
 simp only[Ab,Cn g1 rfl,l3,I,Ko,Ah,E6]
 cases wi f.Jv 1 4294967295 with
 | false=>simp only[Ab,D5,Ah];exact .ret ⟨rfl,x1⟩
 | true=>
 simp only[Ab,Cn g1 rfl,l4,I,Ko,Ah,D5]
 exact .ret ⟨by simp only[Bool.true_and],x1⟩
def Anz(f:Fr):List Nat:=Sg 1 f.kind.toNat++Sg 1 1++Sg 2 f.B5.toNat++Sg 2 f.off.toNat++Sg 4 f.Jv.toNat++Sg 6 f.seq.toNat++f.body
noncomputable def Ui(f:Fr):List Nat:=Anz f++Sg 4 (H9 (Anz f))
theorem Abm(w a:Nat):∀ b ∈ Sg w a,b<256:=fun b hb=>by
 unfold Sg at hb
 obtain⟨i,_,rfl⟩:=List.mem_map.1 hb
 exact Nat.mod_lt _ (by decide)
theorem Afg {f:Fr}(w:f.Wf):(Anz f).length=60:=by
 unfold Anz;simp only[List.length_append,Mn,w.len]
theorem Ai9 {f:Fr}(w:f.Wf):(Ui f).length=64:=by
 unfold Ui;rw[List.length_append,Afg w,Mn]
theorem Au1 {f:Fr}(w:f.Wf):∀ b ∈ Anz f,b<256:=fun b hb=>by
 unfold Anz at hb
 simp only[List.mem_append]at hb
 rcases hb with (((((hb|hb)|hb)|hb)|hb)|hb)|hb
 ·exact Abm _ _ b hb
 ·exact Abm _ _ b hb
 ·exact Abm _ _ b hb
 ·exact Abm _ _ b hb
 ·exact Abm _ _ b hb
 ·exact Abm _ _ b hb
 ·exact w.u8 b hb
theorem A1w {f:Fr}(w:f.Wf):∀ b ∈ Ui f,b<256:=fun b hb=>by
 unfold Ui at hb
 rcases List.mem_append.1 hb with hb|hb
 ·exact Au1 w b hb
 ·exact Abm _ _ b hb
theorem Abs {w:Nat}{v b:Int}(h0:0<=v)(hb:v<=b)(hw:b<(256 ^ w:Nat)):fits w v=true:=decide_eq_true ⟨h0,by omega⟩
theorem Ah8 {h:Aa}{f:Fr}(w:f.Wf)(hr:frB f=true)(hb:HB h)(hK:10000<K):
 Ok (O6 K Ss (.agg f.cells) h) fun v h'=>v=.tuple [.agg (I6 (Ui f)),I 0]/\Ext h h':=by
 have hr':=hr
 simp only[frB,Bool.and_eq_true]at hr'
 obtain⟨r1,r2,r3,r4,r5⟩:=hr'
 obtain⟨a1,b1⟩:=Rr.1 r1
 obtain⟨a2,b2⟩:=Rr.1 r2
 obtain⟨a3,b3⟩:=Rr.1 r3
 obtain⟨a4,b4⟩:=Rr.1 r4
 obtain⟨a5,b5⟩:=Rr.1 r5
 have l0:f.cells[0]? = some (I f.kind):=rfl
 have l1:f.cells[1]? = some (I f.B5):=rfl
 have l2:f.cells[2]? = some (I f.off):=rfl
 have l3:f.cells[3]? = some (I f.Jv):=rfl
 have l4:f.cells[4]? = some (I f.seq):=rfl
 have hfl:=Fr.Ib w
 unfold Ss
 simp only[O6,Ab]
 have x1:Ext h (((h.new (.cells Bc 72)).new (.cells f.cells 120)).new (.cells Y5 103)):=((A6.new _ _).Gw _).Gw _
 have g2:(((h.new (.cells Bc 72)).new (.cells f.cells 120)).new (.cells Y5 103)).get h.next=some (.cells Bc 72):=by
  rw[Bn _ (by show h.next<h.next+1+1;omega),Bn _ (Nat.lt_succ_self _)];exact Ae _ _
 have g3:(((h.new (.cells Bc 72)).new (.cells f.cells 120)).new (.cells Y5 103)).get (h.next+1)=some (.cells f.cells 120):=by
  rw[Bn _ (by show h.next+1<h.next+1+1;omega)];exact Ae _ _
 have g4:(((h.new (.cells Bc 72)).new (.cells f.cells 120)).new (.cells Y5 103)).get (h.next+2)=some (.cells Y5 103):=Ae _ _
 have n1:(((h.new (.cells Bc 72)).new (.cells f.cells 120)).new (.cells Y5 103)).next=h.next+3:=rfl
 rw[show (h.new (.cells Bc 72)).next=h.next+1 from rfl,show ((h.new (.cells Bc 72)).new (.cells f.cells 120)).next=h.next+2 from rfl,show List.replicate 64 (EV.int .u8 0)=Y5 from rfl]
 generalize ((h.new (.cells Bc 72)).new (.cells f.cells 120)).new (.cells Y5 103)=h1 at x1 g2 g3 g4 n1 ⊢
 have hb1:=x1.hb hb
 rw[F2 g3 rfl,Aw hfl]
 simp only[Su]
 refine(Ako (K:=K) f).Aj ?_
 rintro _ h2 ⟨rfl,x2⟩
 rw[hr]
 simp only[Ab,Yg]
 have hb2:=x2.hb hb1
 have x12:=x1.trans x2
 have g2:=x2.at hb1 g2
 have g3:=x2.at hb1 g3
 have g4:=x2.at hb1 g4
 have n2:h.next+3<=h2.next:=by have:=x2.next;omega
 have p0:Aoe (h2.new (.cells [.Af,.bool false] 278)) h2.next 278 [] false:=⟨.Af,0,Ae _ _,.nil _ _ _ _,fun y=>absurd y (Nat.lt_irrefl _)⟩
 have x3:Ext h2 (h2.new (.cells [.Af,.bool false] 278)):=A6.new _ _
 have g2:=x3.at hb2 g2
 have g3:=x3.at hb2 g3
 have g4:=x3.at hb2 g4
 have hb3:=x3.hb hb2
 have x13:=x12.trans x3
 generalize h2.new (.cells [.Af,.bool false] 278)=h3 at p0 x3 g2 g3 g4 hb3 x13 ⊢
 generalize hP:h2.next=P at p0 n2 ⊢
 have up:∀ {ha hc:Aa},Ext h ha->A6 (fun i=>P<=i) ha hc->Ext h hc:=fun x c=>x.then c fun j hj hl=>by
  have hj:P<=j:=hj
  omega
 have lo:∀ {ha hc:Aa} {i:Nat} {o:Cx},A6 (fun i=>P<=i) ha hc->HB ha->ha.get i=some o->i<P->hc.get i=some o:=fun c hb g hi=>c.at hb g (by omega)
 simp only[Cn g3 rfl,l0]
 simp only[Su]
 refine(P9 (K:=K) (w:=1) (by omega) p0 hb3 (by simp) (by decide) (by decide) (v:=f.kind) (by omega)).Aj ?_
 rintro _ h5 ⟨p,c,hb5⟩
 rw[Abs (b:=5) (by omega) b1 (by decide),if_pos rfl]at p
 have x5:=up x13 c
 have g2:=lo c hb3 g2 (by omega)
 have g3:=lo c hb3 g3 (by omega)
 have g4:=lo c hb3 g4 (by omega)
 refine(P9 (K:=K) (w:=1) (by omega) p hb5 (by simp[Mn]) (by decide) (by decide) (v:=1) (by omega)).Aj ?_
 rintro _ h6 ⟨p,c,hb6⟩
 rw[Abs (b:=1) (by omega) (Int.le_refl _) (by decide),if_pos rfl]at p
 have x6:=up x5 c
 have g2:=lo c hb5 g2 (by omega)
 have g3:=lo c hb5 g3 (by omega)
 have g4:=lo c hb5 g4 (by omega)
 simp only[Ab,Cn g3 rfl,l1]
 refine(P9 (K:=K) (w:=2) (by omega) p hb6 (by simp[Mn]) (by decide) (by decide) (v:=f.B5) (by omega)).Aj ?_
 rintro _ h7 ⟨p,c,hb7⟩
 rw[Abs (b:=65535) a2 b2 (by decide),if_pos rfl]at p
 have x7:=up x6 c
 have g2:=lo c hb6 g2 (by omega)
 have g3:=lo c hb6 g3 (by omega)
 have g4:=lo c hb6 g4 (by omega)
 simp only[Ab,Cn g3 rfl,l2]
 refine(P9 (K:=K) (w:=2) (by omega) p hb7 (by simp[Mn]) (by decide) (by decide) (v:=f.off) (by omega)).Aj ?_
 rintro _ h8 ⟨p,c,hb8⟩
 rw[Abs (b:=65535) a3 b3 (by decide),if_pos rfl]at p
 have x8:=up x7 c
 have g2:=lo c hb7 g2 (by omega)
 have g3:=lo c hb7 g3 (by omega)
 have g4:=lo c hb7 g4 (by omega)
 simp only[Ab,Cn g3 rfl,l3]
 refine(P9 (K:=K) (w:=4) (by omega) p hb8 (by simp[Mn]) (by decide) (by decide) (v:=f.Jv) (by omega)).Aj ?_
 rintro _ h9 ⟨p,c,hb9⟩
 rw[Abs (b:=4294967295) (by omega) b4 (by decide),if_pos rfl]at p
 have x9:=up x8 c
 have g2:=lo c hb8 g2 (by omega)
 have g3:=lo c hb8 g3 (by omega)
 have g4:=lo c hb8 g4 (by omega)
 simp only[Ab,Cn g3 rfl,l4]
 refine(P9 (K:=K) (w:=6) (by omega) p hb9 (by simp[Mn]) (by decide) (by decide) (v:=f.seq) (by omega)).Aj ?_
 rintro _ h10 ⟨p,c,hb10⟩
 rw[Abs (b:=281474976710655) a5 b5 (by decide),if_pos rfl]at p
 have x10:=up x9 c
 have g2:=lo c hb9 g2 (by omega)
 have g3:=lo c hb9 g3 (by omega)
 have g4:=lo c hb9 g4 (by omega)
 try simp only[Ab]
 rw[show ∀ k:EV->R,Zj 44 1 (.ptr (h.next+1) 5) none none none k=k (.slice (h.next+1) 5 44 44 false) from fun k=>rfl]
 have hcb:M0 h10 1 44 (.slice (h.next+1) 5 44 44 false)=some (I6 f.body):=by
  show Tv h10 (h.next+1) 5 44=_
  unfold Tv Ut
  rw[g3]
  show N0 f.cells 5 44=_
  rw[K2 (by rw[hfl];decide)]
  show some (List.take 44 (I6 f.body))=_
  rw[List.take_of_length_le (by rw[Fh,w.len];decide)]
 refine(An6 (K:=K) (n:=44) p hb10 (by simp[Mn]) rfl (by decide) (by decide) hcb w.len).Aj ?_
 rintro _ h11 ⟨p,c,hb11⟩
 have x11:=up x10 c
 have g2:=lo c hb10 g2 (by omega)
 have g4:=lo c hb10 g4 (by omega)
 have ep:([]++Sg 1 f.kind.toNat++Sg 1 (1:Int).toNat++Sg 2 f.B5.toNat++Sg 2 f.off.toNat++Sg 4 f.Jv.toNat++Sg 6 f.seq.toNat++f.body)=Anz f:=by
  unfold Anz;rw[List.nil_append];rfl
 have ebad:∀ b:Bool,(b || !true)=b:=by decide
 rw[ep]at p
 simp only[ebad]at p
 refine(As5 (K:=K) p hb11 (by rw[Afg w];decide)).Aj ?_
 rintro _ h12 ⟨y,q',rfl,ry,x12',hb12,lq⟩
 have g2:=x12'.at hb11 g2
 have g4:=x12'.at hb11 g4
 simp only[Ab,I,Ah]
 simp only[not_true_eq_false,decide_false,Ab,Yt]
 rw[F2 g2 rfl,Aw Uo]
 simp only[Su]
 have hpos:0<(Anz f).length:=by rw[Afg w];decide
 refine(A1u (K:=K) hK (ry.bs hpos) hb12 (Au1 w) hpos (by rw[Afg w];decide)).Aj ?_
 rintro v h13 ⟨q2,r13,x13',hb13,lq2⟩
 have r13:Bx h13 v q2 5 1 (Ui f).length (I6 (Ui f)):=r13
 have g4:=x13'.at hb12 g4
 have hel:=Ai9 w
 have hsl:=r13.slice (by rw[hel];decide)
 subst hsl
 rw[show ∀ k:EV->R,Afa 64 (.slice q2 0 (Ui f).length (Ui f).length true) k=k (.ptr q2 0) from fun k=>by rw[hel];rfl]
 rw[F2 (r13.block (by rw[hel];decide)) rfl,Aw (by rw[Fh,hel])]
 simp only[Su]
 refine Ok.st (I6 (Ui f)) g4 rfl (by show Jz (I6 (Ui f))=64;rw[Dq,Fh,hel]) (Fy (by rw[Af5];show 64=(I6 (Ui f)).length;rw[Fh,hel])) ?_
 have g14:(h13.put (h.next+2) (.cells (I6 (Ui f)) 103)).get (h.next+2)=some (.cells (I6 (Ui f)) 103):=Ai _ _ _
 rw[Ai2 g14 Al4.1 Al4.2 (by rw[Fh,hel])]
 have xx:Ext h h13:=x11.trans (x12'.trans x13')
 exact .ret ⟨rfl,xx.A3 (.inr (by omega)) (hb13 _ _ g4) _⟩
end Go.Ev

namespace Go.Ev
open Go.Proofs
set_option maxRecDepth 100000
variable {K:Nat}
end Go.Ev

namespace Go.Ev
open Go.Proofs
set_option maxRecDepth 100000
variable {K:Nat}
end Go.Ev

namespace Go.Ev
open Go.Proofs
set_option maxRecDepth 100000
variable {K:Nat}
structure En where
 kind:Int
 first:Int
 count:Int
 block:Int
 many:Int
 A24:Int
 bytes:List Nat
def En.cells(e:En):List EV:=[I e.kind,I e.first,I e.count,I e.block,I e.many,I e.A24]++I6 e.bytes
end Go.Ev

namespace Go.Ev
open Go.Proofs
set_option maxRecDepth 100000
variable {K:Nat}
theorem Auh:TT.size 118=some 44/\TT.agg 118=some true:=⟨by kernel_rfl,by kernel_rfl⟩
end Go.Ev

namespace Go.Ev
open Go.Proofs
set_option maxRecDepth 100000
variable {K:Nat}
end Go.Ev

namespace Go.Ev
open Go.Proofs
set_option maxRecDepth 100000
variable {K:Nat}
end Go.Ev

namespace Go.Ev
open Go.Proofs
set_option maxRecDepth 100000
variable {K:Nat}
end Go.Ev

namespace Go.Ev
open Go.Proofs
set_option maxRecDepth 100000
end Go.Ev
