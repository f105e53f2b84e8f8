import Derived.Test.YtpkcfamminlmaaaGreatXc
import Derived.Test.YtpkcfamminlmaaaGreatXb
set_option linter.unusedVariables false
set_option linter.unusedSimpArgs false
set_option linter.unusedSectionVars false
namespace Go.Ev
open Go.Proofs
set_option maxRecDepth 100000
variable {K:Nat}
abbrev Nk(k:IntKind)(a:Nat):EV:=.int k (Int.ofNat a)
theorem wrap_u8(a:Nat):Dk .u8 (Int.ofNat a)=Int.ofNat (a % 256):=by
 rw[Lc]
 rfl
theorem wrap_u32(a:Nat):Dk .u32 (Int.ofNat a)=Int.ofNat (a % 4294967296):=by
 rw[Lc]
 rfl
theorem Ak1 {c:IntKind}{a:Nat}{k:EV->R}:Qx .u8 (.int c (Int.ofNat a)) k=k (Nk .u8 (a % 256)):=by
 rw[Ax4,wrap_u8]
theorem Adc {t:Nat}{a:Nat}{k:EV->R}:Oc (bin TT .shr t) (.int .i64 (Int.ofNat a)) (.int .u64 8) k=k (Nk .i64 (a / 256)):=by
 show k (.int .i64 (.ofNat (Nat.shiftRight a 8)))=_
 have:Nat.shiftRight a 8=a / 256:=Nat.shiftRight_eq_div_pow a 8
 rw[this]
theorem Ak8 {t s:Nat}(hs:s<=32){a:Nat}{k:EV->R}:Oc (bin TT .shr t) (.int .u32 (Int.ofNat a)) (.int .u64 (Int.ofNat s)) k=k (Nk .u32 (a / 2 ^ s)):=by
 show k (.int .u32 (.ofNat (Nat.shiftRight a (Ar (Nat.ble s 32) s 32))))=_
 rw[Nat.ble_eq_true_of_le hs,Ak]
 have:Nat.shiftRight a s=a / 2 ^ s:=Nat.shiftRight_eq_div_pow a s
 rw[this]
theorem Av9 {t:Nat}{a b:Nat}(ha:a<4294967296)(hb:b<4294967296){k:EV->R}:Oc (bin TT .xor t) (.int .u32 (Int.ofNat a)) (.int .u32 (Int.ofNat b)) k=k (Nk .u32 (a ^^^ b)):=by
 show k (.int .u32 (Dk .u32 (.ofNat (Nat.xor a b))))=_
 rw[wrap_u32]
 have:Nat.xor a b<2 ^ 32:=Nat.xor_lt_two_pow (n:=32) ha hb
 rw[Nat.mod_eq_of_lt (by exact this)];rfl
theorem A1n {t:Nat}{a b:Nat}(ha:a<256)(hb:b<256){k:EV->R}:Oc (bin TT .xor t) (.int .u8 (Int.ofNat a)) (.int .u8 (Int.ofNat b)) k=k (Nk .u8 (a ^^^ b)):=by
 show k (.int .u8 (Dk .u8 (.ofNat (Nat.xor a b))))=_
 rw[wrap_u8]
 have:Nat.xor a b<2 ^ 8:=Nat.xor_lt_two_pow (n:=8) ha hb
 rw[Nat.mod_eq_of_lt (by exact this)];rfl
def wd:Nat->Nat->Nat
 | 0,_=>1
 | f+1,a=>if a / 256=0 then 1 else wd f (a / 256)+1
theorem A5s:∀ (f a w:Nat),a<256 ^ (f+1)->1<=w->(wd f a<=w ↔ a<256 ^ w)
 | 0,a,w,h,hw=>by
  refine⟨fun _=>Nat.lt_of_lt_of_le h (Nat.pow_le_pow_right (by decide) (by omega)),fun _=>hw⟩
 | f+1,a,w,h,hw=>by
  unfold wd
  by_cases h0:a / 256=0
  ·rw[if_pos h0]
   refine⟨fun _=>?_,fun _=>hw⟩
   have:a<256:=by omega
   exact Nat.lt_of_lt_of_le this (by have:=Nat.pow_le_pow_right (n:=256) (by decide) hw;simpa using this)
  ·rw[if_neg h0]
   have ih:=A5s f (a / 256) (w-1) (by rw[Nat.pow_succ]at h;exact Nat.div_lt_of_lt_mul (by rw[Nat.mul_comm];exact h))
   by_cases h1:w=1
   ·subst h1
    refine⟨fun y=>?_,fun y=>?_⟩
    ·have:1<=wd f (a / 256):=by cases f <;> unfold wd <;> (try split) <;> omega
     omega
    ·exfalso;apply h0;simp at y;omega
   ·have ih:=ih (by omega)
    obtain⟨v,rfl⟩:∃ v,w=v+1:=⟨w-1,by omega⟩
    rw[Nat.add_sub_cancel]at ih
    rw[Nat.pow_succ]
    refine⟨fun y=>?_,fun y=>?_⟩
    ·have:=ih.1 (by omega)
     have:=Nat.div_lt_iff_lt_mul (k:=256) (x:=a) (y:=256 ^ v) (by decide)
     omega
    ·have:=ih.2 (Nat.div_lt_of_lt_mul (by rw[Nat.mul_comm];exact y))
     omega
theorem Aut:∀ (f m a n:Nat) (h:Aa),f<m->a<256 ^ (f+1)->n+f<=100->f<=10 ->
 E4 K m (Nk .i64 a) (Nk .i64 n) h=Nf K (Nk .i64 (a / 256 ^ (wd f a-1))) (Nk .i64 (n+wd f a-1)) h:=by
 intro f
 induction f with
 | zero=>
  intro m a n h hm ha hn hf
  obtain⟨m,rfl⟩:∃ k,m=k+1:=⟨m-1,by omega⟩
  have:a / 256=0:=by simp at ha;omega
  simp only[E4]
  rw[Adc,this]
  simp only[Nk,Ah]
  rw[show decide ((0:Int)<Int.ofNat 0)=false from rfl]
  simp only[Ab,wd,Nat.sub_self,Nat.pow_zero,Nat.div_one,Nat.add_sub_cancel]
 | succ f ih=>
  intro m a n h hm ha hn hf
  obtain⟨m,rfl⟩:∃ k,m=k+1:=⟨m-1,by omega⟩
  simp only[E4]
  rw[Adc]
  simp only[Nk,Ah]
  unfold wd
  by_cases h0:a / 256=0
  ·rw[if_pos h0,h0]
   rw[show decide ((0:Int)<Int.ofNat 0)=false from rfl]
   simp only[Ab,Nat.sub_self,Nat.pow_zero,Nat.div_one,Nat.add_sub_cancel]
  ·rw[if_neg h0,show decide ((0:Int)<Int.ofNat (a / 256))=true from decide_eq_true (by show (0:Int)<((a / 256:Nat):Int);omega)]
   simp only[Ab,Adl]
   rw[Adc]
   simp only[Nk,Ah]
   rw[show Dk .i64 (Int.ofNat n+1)=Int.ofNat (n+1) from Cx (by show _<=((n:Nat):Int)+1;omega) (by show ((n:Nat):Int)+1<=_;omega)]
   have e:=ih m (a / 256) (n+1) h (by omega) (Nat.div_lt_of_lt_mul (by rw[Nat.mul_comm,<-Nat.pow_succ];exact ha)) (by omega) (by omega)
   rw[e]
   have hw:1<=wd f (a / 256):=by cases f <;> unfold wd <;> (try split) <;> omega
   obtain⟨u,hu⟩:∃ u,wd f (a / 256)=u+1:=⟨wd f (a / 256)-1,by omega⟩
   rw[hu,Nat.add_sub_cancel,show u+1+1-1=u+1 from rfl,Nat.pow_succ',Nat.div_div_eq_div_mul,show n+1+(u+1)-1=n+(u+1+1)-1 by omega]
def Vl(a:Nat):Nat:=if 7<wd 7 a then 8 else wd 7 a
theorem Ao0 {a:Nat}(ha:a<9223372036854775808)(hK:1000<K)(h:Aa):Mn K (.int .i64 (Int.ofNat a)) h=some (Nk .i64 (Vl a),h):=by
 unfold Mn Vl
 have e:=Aut (K:=K) 7 K a 1 h (by omega) (Nat.lt_trans ha (by decide)) (by decide) (by decide)
 have:(EV.int .i64 1)=Nk .i64 1:=rfl
 rw[this,e]
 have hw:1<=wd 7 a:=by unfold wd;split <;> omega
 simp only[Nf,Nk,Ah]
 rw[show decide (Int.ofNat (a / 256 ^ (wd 7 a-1))<0)=false from decide_eq_false (by show ¬ (((a / 256 ^ (wd 7 a-1):Nat):Int)<0);exact Int.not_lt.2 (Int.natCast_nonneg _))]
 rw[show 1+wd 7 a-1=wd 7 a by omega]
 by_cases h7:7<wd 7 a
 ·rw[show decide ((7:Int)<Int.ofNat (wd 7 a))=true from decide_eq_true (by show (7:Int)<((wd 7 a:Nat):Int);omega),if_pos h7]
  simp only[Ab,Ng]
  rfl
 ·rw[show decide ((7:Int)<Int.ofNat (wd 7 a))=false from decide_eq_false (by show ¬ ((7:Int)<((wd 7 a:Nat):Int));omega),if_neg h7]
  simp only[Ab,Ng,Adf]
theorem Azw {a:Nat}(hK:1000<K)(h:Aa):Mn K (.int .i64 (Int.negSucc a)) h=some (I 8,h):=by
 obtain⟨m,rfl⟩:∃ k,K=k+1:=⟨K-1,by omega⟩
 unfold Mn
 simp only[E4]
 have e:∀ k:EV->R,Oc (bin TT .shr 3) (.int .i64 (Int.negSucc a)) (.int .u64 8) k=k (.int .i64 ((Int.negSucc a).fdiv 256)):=fun k=>rfl
 have hneg:(Int.negSucc a).fdiv 256<0:=by
  rw[Int.fdiv_eq_ediv_of_nonneg _ (by decide)]
  have:Int.negSucc a<0:=Int.negSucc_lt_zero a
  omega
 rw[e]
 simp only[Ah]
 rw[show decide ((0:Int)<(Int.negSucc a).fdiv 256)=false from decide_eq_false (by omega)]
 simp only[Ab,Nf,Ah]
 rw[show decide (Int.negSucc a<0)=true from decide_eq_true (Int.negSucc_lt_zero a)]
 simp only[Ab,Ng,I]
theorem Aor {a w:Nat}(ha:a<9223372036854775808)(h1:1<=w)(h7:w<=7):Vl a<=w ↔ a<256 ^ w:=by
 have:=A5s 7 a w (Nat.lt_trans ha (by decide)) h1
 rw[<-this]
 unfold Vl
 split <;> omega
def T1(w a:Nat):List Nat:=(List.range w).map fun i=>a / 256 ^ i % 256
theorem Asz(w a:Nat):T1 (w+1) a=T1 w a++[a / 256 ^ w % 256]:=by unfold T1;rw[List.range_succ,List.map_append];rfl
theorem Nr(w a:Nat):(T1 w a).length=w:=by simp[T1]
theorem Agl(a b:List Nat):Jx (a++b)=Jx a++Jx b:=List.map_append
theorem F2(a:List Nat):(Jx a).length=a.length:=List.length_map _
structure Arq(h:Aa)(P t:Nat)(out:List Nat)(bad:Bool):Prop where
 Q0:∃ s q,h.get P=some (.cells [s,.bool bad] t)/\Bz h s q 5 1 out.length (Jx out)/\(0<out.length->P<q)
theorem Aaq(n:Int)(h:Aa):Pw K (I n) h=some (.bool (decide (1<=n/\n<=7)),h):=by
 simp only[Pw,I,Ah,Ab]
 by_cases h1:1<=n
 ·simp only[h1,decide_true,Ab,Ah,Ot,true_and]
 ·simp only[h1,decide_false,Ab,Ot,false_and]
theorem A1t {P t w:Nat}{bad:Bool}{a:Nat}(ha:a<9223372036854775808)(hw:w<=7){out:List Nat}(ho:out.length<=60000)(h0:Aa)(hP:P<h0.next):∀ (m i:Nat) (h:Aa),w-i<m->i<=w->HB h->A1 (fun i=>P<=i) h0 h->Arq h P t (out++T1 i a) bad ->
 Ok (Dp K m (.ptr P 0) (Nk .i64 (a / 256 ^ i)) (I w) (I i) h) fun _ h'=>Arq h' P t (out++T1 w a) bad/\A1 (fun i=>P<=i) h0 h'/\HB h':=by
 intro m
 induction m with
 | zero=>intro i h hm;omega
 | succ m ih=>
  intro i h hm hi hb c p
  obtain⟨s,q,g,r,l⟩:=p.Q0
  simp only[Dp,I,Ah,Ab]
  by_cases hlt:(i:Int)<w
  ·simp only[hlt,decide_true,Ab,Rf,Cl g rfl]
   rw[wrap_u8]
   have hlen:(out++T1 i a).length=out.length+i:=by rw[List.length_append,Nr]
   refine Ml (z:=[.int .u8 0]) r hb rfl rfl rfl (by omega) (by omega) ?_
   intro h2 r2 n2 c2
   have gq:¬ (0<(out++T1 i a).length/\P=q):=fun y=>by have:=l y.1;omega
   have g2:=c2.at hb g gq
   have lP:=(c2.hb hb) _ _ g2
   refine Ok.st1 g2 rfl rfl (by show 0<2;decide) ?_
   rw[Adc]
   simp only[Q9,I,Ah]
   rw[Cx (by omega) (by omega),Nat.div_div_eq_div_mul,<-Nat.pow_succ]
   have c3:A1 (fun i=>P<=i) h (h2.put P (.cells ([s,EV.bool bad].set 0 (.slice (h.next+1) 0 ((out++T1 i a).length+1) ((out++T1 i a).length+1) true)) t)):=(c2.mono fun j hj=>by have:=l hj.1;show P<=j;omega).Az (.inl (Nat.le_refl _)) lP _
   refine ih (i+1) _ (by omega) (by omega) ((c2.hb hb).put lP _) (c.trans c3) ?_
   rw[Asz,<-List.append_assoc]
   refine⟨_,h.next+1,Ai _ _ _,?_,fun _=>by have:=c.next;omega⟩
   have e1:((out++T1 i a)++[a / 256 ^ i % 256]).length=(out++T1 i a).length+1:=by rw[List.length_append];rfl
   have e2:Jx ((out++T1 i a)++[a / 256 ^ i % 256])=Jx (out++T1 i a)++EV.cells (Nk .u8 (a / 256 ^ i % 256)):=by rw[Agl];rfl
   rw[e1,e2]
   refine r2.frame fun _=>Al _ ?_
   have:=hb _ _ g;omega
  ·have:i=w:=by omega
   subst this
   simp only[hlt,decide_false,Ab]
   exact .ret ⟨p,c,hb⟩
def fits(w:Nat)(v:Int):Bool:=decide (0<=v/\v<(256 ^ w:Nat))
theorem Rk {P t w:Nat}{bad:Bool}{out:List Nat}(hK:1000<K){h:Aa}(p:Arq h P t out bad)(hb:HB h)(ho:out.length<=60000)(h1:1<=w)(h7:w<=7){v:Int}(hv : -9223372036854775808<=v/\v<=9223372036854775807):
 Ok (Bf K (.ptr P 0) (I w) (I v) h) fun _ h'=>Arq h' P t (if fits w v=true then out++T1 w v.toNat else out) (bad || !fits w v)/\A1 (fun i=>P<=i) h h'/\HB h':=by
 obtain⟨s,q,g,r,l⟩:=p.Q0
 have lP:=hb _ _ g
 simp only[Bf]
 rw[Aaq,decide_eq_true ⟨by omega,by omega⟩]
 simp only[Ab,Ah]
 have no:fits w v=false->Ok (I9 1 (.ptr P 1) (.bool true) h fun h=>some (.tuple [],h)) fun _ h'=>Arq h' P t (if fits w v=true then out++T1 w v.toNat else out) (bad || !fits w v)/\A1 (fun i=>P<=i) h h'/\HB h':=by
  intro hf
  refine Ok.st1 g rfl rfl (by show 1<2;decide) ?_
  refine .ret ⟨?_,(A1.refl (S:=fun i=>P<=i) h).Az (.inl (Nat.le_refl _)) lP _,hb.put lP _⟩
  rw[hf,if_neg (by simp),Bool.not_false,Bool.or_true]
  exact⟨s,q,Ai _ _ _,r.frame fun y=>Al _ (by have:=l y;omega),l⟩
 cases v with
 | negSucc a=>
  unfold I
  rw[Azw hK,A0]
  simp only[I,Ah]
  rw[show decide ((w:Int)<8)=true from decide_eq_true (by omega)]
  simp only[Ab,Ic]
  exact no (decide_eq_false fun y=>absurd y.1 (by have:=Int.negSucc_lt_zero a;omega))
 | ofNat a=>
  have ha:a<9223372036854775808:=by have:((a:Nat):Int)<=9223372036854775807:=hv.2;omega
  unfold I
  rw[Ao0 ha hK,A0]
  have hfit:=Aor ha h1 h7
  simp only[Nk,Ah]
  by_cases hw:Vl a<=w
  ·have hf:fits w (Int.ofNat a)=true:=decide_eq_true ⟨Int.natCast_nonneg a,by have:=hfit.1 hw;exact Int.ofNat_lt.2 this⟩
   rw[show decide ((w:Int)<Int.ofNat (Vl a))=false from decide_eq_false (by show ¬ (w:Int)<((Vl a:Nat):Int);omega)]
   simp only[Ab,Ic,Q8]
   have:=A1t (K:=K) (P:=P) (t:=t) (w:=w) (bad:=bad) ha h7 ho h lP K 0 h (by omega) (Nat.zero_le _) hb (A1.refl _) (by simpa [T1] using p)
   rw[Nat.pow_zero,Nat.div_one]at this
   rw[hf,if_pos rfl,Bool.not_true,Bool.or_false]
   exact this
  ·rw[show decide ((w:Int)<Int.ofNat (Vl a))=true from decide_eq_true (by show (w:Int)<((Vl a:Nat):Int);omega)]
   simp only[Ab,Ic]
   exact no (decide_eq_false fun y=>hw (hfit.2 (Int.ofNat_lt.1 y.2)))
theorem Arl {P t n:Nat}{bad:Bool}{out new:List Nat}{h:Aa}(p:Arq h P t out bad)(hb:HB h)(ho:out.length<=60000){x:EV}(hx:lenOf x=some n)(h0:0<n)(hn:n<=5000)(hc:N4 h 1 n x=some (Jx new))(hl:new.length=n):
 Ok (Ou K (.ptr P 0) x h) fun _ h'=>Arq h' P t (out++new) bad/\A1 (fun i=>P<=i) h h'/\HB h':=by
 obtain⟨s,q,g,r,l⟩:=p.Q0
 have lP:=hb _ _ g
 simp only[Ou,Ab,Cl g rfl]
 obtain⟨h2,e,r2,n2,c2⟩:=Rj r hx h0 (by omega) (by omega) hc (by rw[F2,hl,Nat.mul_one])
 rw[e,A0]
 have gq:¬ (0<out.length/\P=q):=fun y=>by have:=l y.1;omega
 have g2:=c2.at hb g gq
 have lP2:=(c2.hb hb) _ _ g2
 try simp only[Ab]
 refine Ok.st1 g2 rfl rfl (by show 0<2;decide) ?_
 refine .ret ⟨⟨_,h.next,Ai _ _ _,?_,fun _=>by omega⟩,(c2.mono fun j hj=>by have:=l hj.1;show P<=j;omega).Az (.inl (Nat.le_refl _)) lP2 _,(c2.hb hb).put lP2 _⟩
 rw[List.length_append,hl,Agl]
 exact r2.frame fun _=>Al _ (by omega)
end Go.Ev

namespace Go.Ev
open Go.Proofs
set_option maxRecDepth 100000
variable {K:Nat}
structure Bs(h:Aa)(x:EV)(b off:Nat)(l:List Nat):Prop where
 Q0:∃ r op o row,x=.slice b off l.length r op/\l.length<=r/\h.get b=some o/\rowOf o=some row/\off+l.length<=row.length/\(row.drop off).take l.length=Jx l
theorem Bs.frame {h h':Aa}{x:EV}{b off:Nat}{l:List Nat}(s:Bs h x b off l)(e:h'.get b=h.get b):Bs h' x b off l:=by
 obtain⟨r,op,o,row,e1,e0,e2,e3,e4,e5⟩:=s.Q0
 exact⟨r,op,o,row,e1,e0,by rw[e];exact e2,e3,e4,e5⟩
theorem Bs.lt {h:Aa}{x:EV}{b off:Nat}{l:List Nat}(s:Bs h x b off l)(hb:HB h):b<h.next:=by
 obtain⟨r,op,o,row,e1,e0,e2,e3,e4,e5⟩:=s.Q0
 exact hb _ _ e2
theorem Bs.ext {h h':Aa}{x:EV}{b off:Nat}{l:List Nat}(s:Bs h x b off l)(hb:HB h)(c:Ext h h'):Bs h' x b off l:=s.frame (c.get _ (s.lt hb) id)
theorem Bs.len {h:Aa}{x:EV}{b off:Nat}{l:List Nat}(s:Bs h x b off l):lenOf x=some l.length:=by
 obtain⟨r,op,o,row,rfl,_⟩:=s.Q0;rfl
theorem Bs.H8 {h:Aa}{x:EV}{b off:Nat}{l:List Nat}(s:Bs h x b off l)(k:EV->R):Ev.H8 x k=k (I l.length):=by
 obtain⟨r,op,o,row,rfl,_⟩:=s.Q0;rfl
theorem Bs.cells {h:Aa}{x:EV}{b off:Nat}{l:List Nat}(s:Bs h x b off l):N4 h 1 l.length x=some (Jx l):=by
 obtain⟨r,op,o,row,rfl,e0,e2,e3,e4,e5⟩:=s.Q0
 show Ar (Nat.beq l.length 0) (some []) (Vx h b off (Nat.mul l.length 1))=_
 rw[show Nat.mul l.length 1=l.length from Nat.mul_one _]
 have hc:Na row off l.length=some (Jx l):=by rw[Ki e4,e5]
 cases hl:l with
 | nil=>rfl
 | cons a r=>
  rw[show Nat.beq (a::r).length 0=false from rfl,Av]
  unfold Vx
  rw[e2,<-hl]
  cases o <;> first|(cases e3;done)|(cases e3;exact hc)
theorem Bs.ix {h:Aa}{x:EV}{b off:Nat}{l:List Nat}(s:Bs h x b off l){i:Nat}(hi:i<l.length):(∀ k:EV->R,Ib 1 x (.int .i64 (i:Int)) k=k (.ptr b (off+i)))/\(∀ k:EV->R,Ao (.ptr b (off+i)) h k=k (Nk .u8 l[i])):=by
 obtain⟨r,op,o,row,rfl,e0,e2,e3,e4,e5⟩:=s.Q0
 refine⟨fun k=>by rw[Sw hi,Nat.mul_one],fun k=>?_⟩
 rw[Cl e2 e3]
 have:row[off+i]? = some (Nk .u8 l[i]):=by
  have e5:=congrArg (fun z=>z[i]?) e5
  simp only[List.getElem?_take,hi,if_true,List.getElem?_drop]at e5
  rw[e5]
  unfold Jx
  rw[List.getElem?_map,List.getElem?_eq_getElem hi];rfl
 rw[this];rfl
theorem Bz.bs {h:Aa}{s:EV}{q:Nat}{l:List Nat}(r:Bz h s q 5 1 l.length (Jx l))(hl:0<l.length):Bs h s q 0 l:=by
 refine⟨l.length,true,_,Jx l,r.slice hl,Nat.le_refl _,r.block hl,rfl,by rw[F2,Nat.zero_add];exact Nat.le_refl _,?_⟩
 rw[List.drop_zero,<-F2,List.take_length]
def A8y:EV->Nat
 | .int _ x=>x.toNat
 | _=>0
noncomputable def Au0:List Nat:=Bc.map A8y
theorem Azq:Bc=Au0.map (Nk .u32):=by kernel_rfl
theorem A59:Au0.all (fun n=>Nat.blt n 4294967296)=true:=by kernel_rfl
theorem A44:Au0.length=256:=by kernel_rfl
noncomputable def Aop(r c:Nat):Nat:=(r / 256) ^^^ (Au0[(r % 256) ^^^ c]?).getD 0
theorem Au8 {i:Nat}(hi:i<256):Bc[i]? = some (Nk .u32 ((Au0[i]?).getD 0))/\(Au0[i]?).getD 0<4294967296:=by
 have hi':i<Au0.length:=by rw[A44];exact hi
 rw[Azq,List.getElem?_map,List.getElem?_eq_getElem hi']
 refine⟨rfl,?_⟩
 have:=List.all_eq_true.1 A59 _ (List.getElem_mem hi')
 exact Nat.le_of_ble_eq_true this
theorem A4x {r c:Nat}(hr:r<4294967296)(hc:c<256):Aop r c<4294967296:=by
 unfold Aop
 have h1:(r % 256) ^^^ c<2 ^ 8:=Nat.xor_lt_two_pow (n:=8) (Nat.mod_lt _ (by decide)) hc
 exact Nat.xor_lt_two_pow (n:=32) (by show r / 256<4294967296;omega) (Au8 h1).2
theorem A33 {h:Aa}{r c:Nat}(hr:r<4294967296)(hc:c<256):Ok (Mr K Ug (Nk .u32 r) (Nk .u8 c) h) fun v h'=>v=Nk .u32 (Aop r c)/\Ext h h':=by
 unfold Ug
 simp only[Mr,Ab]
 have g3:(h.new (.cells Bc 72)).get h.next=some (.cells Bc 72):=Ae _ _
 have x1:Ext h (h.new (.cells Bc 72)):=A1.new _ _
 generalize h.new (.cells Bc 72)=h1 at g3 x1 ⊢
 rw[show ∀ k:EV->R,Oc (bin TT .shr 70) (Nk .u32 r) (.int .u64 8) k=k (Nk .u32 (r / 256)) from fun k=>Ak8 (s:=8) (by decide)]
 have h1':(r % 256) ^^^ c<256:=Nat.xor_lt_two_pow (n:=8) (Nat.mod_lt _ (by decide)) hc
 rw[wrap_u8,A1n (Nat.mod_lt _ (by decide)) hc,show ∀ k:EV->R,Aa7 256 1 (.ptr h.next 0) (Nk .u8 ((r % 256) ^^^ c)) k=k (.ptr h.next (0+((r % 256) ^^^ c)*1)) from fun k=>Wu h1']
 rw[Cl g3 rfl,Nat.zero_add,Nat.mul_one,(Au8 h1').1]
 simp only[Ue]
 rw[Av9 (by omega) (Au8 h1').2]
 exact .ret ⟨rfl,x1⟩
noncomputable def Ajq(r:Nat)(l:List Nat):Nat:=l.foldl Aop r
theorem Ark:∀ (l:List Nat) (r:Nat),r<4294967296->(∀ b ∈ l,b<256)->Ajq r l<4294967296
 | [],r,hr,_=>hr
 | c::l,r,hr,hl=>Ark l (Aop r c) (A4x hr (hl c (List.mem_cons_self ..))) fun b hb=>hl b (List.mem_cons_of_mem _ hb)
theorem A0b {T b off:Nat}{x:EV}{l:List Nat}(hl:∀ b ∈ l,b<256)(hn:l.length<=5000){r0:Nat}(h0:r0<4294967296):∀ (m i:Nat) (h:Aa),l.length-i<m->i<=l.length->HB h->h.get T=some (.cells Bc 72)->Bs h x b off l ->
 Ok (E0 K m (.ptr T 0) (Nk .u32 (Ajq r0 (l.take i))) x (I l.length) (I i) h) fun v h'=>v=Nk .u32 (Ajq r0 l)/\Ext h h':=by
 intro m
 induction m with
 | zero=>intro i h hm;omega
 | succ m ih=>
  intro i h hm hi hb gT s
  simp only[E0,I,Ah,Ab]
  by_cases hlt:(i:Int)<l.length
  ·have hin:i<l.length:=by omega
   obtain⟨e1,e2⟩:=s.ix hin
   simp only[hlt,decide_true,Ab,Wl,e1,e2,Gf gT rfl]
   rw[Ax Ru]
   simp only[Ue]
   have htk:∀ b ∈ l.take i,b<256:=fun b hb=>hl b (List.mem_of_mem_take hb)
   refine(A33 (K:=K) (Ark _ _ h0 htk) (hl _ (List.getElem_mem hin))).Aj ?_
   rintro _ h1 ⟨rfl,x1⟩
   simp only[Wh,I,Ah]
   rw[Cx (by omega) (by omega)]
   have e:Aop (Ajq r0 (l.take i)) l[i]=Ajq r0 (l.take (i+1)):=by
    unfold Ajq
    rw[List.take_add_one,List.foldl_append,List.getElem?_eq_getElem hin];rfl
   rw[e]
   refine(ih (i+1) h1 (by omega) (by omega) (x1.hb hb) (x1.at hb gT) (s.ext hb x1)).mono ?_
   rintro v h' ⟨e,x2⟩
   exact⟨e,x1.trans x2⟩
  ·have:i=l.length:=by omega
   subst this
   simp only[hlt,decide_false,Ab,Qh,List.take_length]
   exact .ret ⟨rfl,A1.refl _⟩
noncomputable def Iw(l:List Nat):Nat:=Ajq 4294967295 l ^^^ 4294967295
theorem A6y {h:Aa}{x:EV}{b off:Nat}{l:List Nat}(hK:10000<K)(s:Bs h x b off l)(hb:HB h)(hl:∀ b ∈ l,b<256)(hn:l.length<=5000):Ok (Rr K Ug x h) fun v h'=>v=Nk .u32 (Iw l)/\Ext h h':=by
 unfold Ug
 simp only[Rr,Ab]
 have g3:(h.new (.cells Bc 72)).get h.next=some (.cells Bc 72):=Ae _ _
 have x1:Ext h (h.new (.cells Bc 72)):=A1.new _ _
 generalize h.new (.cells Bc 72)=h1 at g3 x1 ⊢
 have s1:=s.ext hb x1
 simp only[Vz,s1.H8]
 refine(A0b (K:=K) hl hn (r0:=4294967295) (by decide) K 0 h1 (by omega) (Nat.zero_le _) (x1.hb hb) g3 s1).Aj ?_
 rintro _ h2 ⟨rfl,x2⟩
 rw[show ∀ k:EV->R,Oc (bin TT .xor 70) (Nk .u32 (Ajq 4294967295 l)) (.int .u32 4294967295) k=k (Nk .u32 (Iw l)) from fun k=>Av9 (b:=4294967295) (Ark l _ (by decide) hl) (by decide)]
 exact .ret ⟨rfl,x1.trans x2⟩
end Go.Ev

namespace Go.Ev
open Go.Proofs
set_option maxRecDepth 100000
variable {K:Nat}
theorem Bz.cells {h:Aa}{s:EV}{q:Nat}{l:List Nat}(r:Bz h s q 5 1 l.length (Jx l)):N4 h 1 l.length s=some (Jx l):=by
 rcases Nat.eq_zero_or_pos l.length with h0|hp
 ·have:l = []:=List.length_eq_zero_iff.1 h0
  subst this
  rcases r with ⟨_,_,rfl|⟨b,rfl⟩⟩|⟨y,_⟩
  ·rfl
  ·rfl
  ·exact absurd y (Nat.lt_irrefl _)
 ·exact(r.bs hp).cells
theorem Ajx {h:Aa}{P t q:Nat}{s:EV}{out:List Nat}(g:h.get P=some (.cells [s,.bool false] t))(r:Bz h s q 5 1 out.length (Jx out))(hb:HB h)(ho:out.length<=60000):
 Ok (Lr K (.ptr P 0) h) fun v h'=>∃ y q',v=.tuple [y,I 0]/\Bz h' y q' 5 1 out.length (Jx out)/\Ext h h'/\HB h'/\(0<out.length->h.next<=q'):=by
 simp only[Lr,Ab,Cl g rfl,Yf]
 rw[show B3 [(.int .u8 0)] 5 1 0 [] h=some (.slice h.next 0 0 0 false,h.new (.cells [] 5)) from rfl,A0]
 have x1:Ext h (h.new (.cells [] 5)):=A1.new _ _
 have g1:=x1.at hb g
 have r1:Bz (h.new (.cells [] 5)) s q 5 1 out.length (Jx out):=r.frame fun y=>x1.get _ (hb _ _ (r.block y)) id
 generalize h.new (.cells [] 5)=h1 at x1 g1 r1 ⊢
 simp only[Ab,Cl g1 rfl]
 refine(Aac (b:=h.next) (e:=5) r1.len (by omega) r1.cells (by rw[F2,Nat.mul_one]) 0).Aj ?_
 rintro v h2 ⟨q',r2,x2,l2⟩
 refine .ret ⟨v,q',rfl,r2,x1.trans x2,(x1.trans x2).hb hb,fun y=>?_⟩
 have:=l2 y
 have:=x1.next
 omega
theorem Au4 {h:Aa}{P t:Nat}{out:List Nat}(p:Arq h P t out false)(hb:HB h)(ho:out.length<=60000):
 Ok (Lr K (.ptr P 0) h) fun v h'=>∃ y q',v=.tuple [y,I 0]/\Bz h' y q' 5 1 out.length (Jx out)/\Ext h h'/\HB h'/\(0<out.length->h.next<=q'):=by
 obtain⟨s,q,g,r,_⟩:=p.Q0
 exact Ajx g r hb ho
theorem Bai(s:Nat):T1 4 s = [s % 256,s / 256 % 256,s / 65536 % 256,s / 16777216 % 256]:=by
 simp[T1,List.range_succ]
theorem A52(a b c d:Int)(h:Aa):B3 [(.int .u8 0)] 5 1 4 [(0,.int .u8 a),(1,.int .u8 b),(2,.int .u8 c),(3,.int .u8 d)] h=some (.slice h.next 0 4 4 false,h.new (.cells [.int .u8 a,.int .u8 b,.int .u8 c,.int .u8 d] 5)):=rfl
theorem A5e {h:Aa}{x:EV}{b off:Nat}{l:List Nat}(hK:10000<K)(s:Bs h x b off l)(hb:HB h)(hl:∀ b ∈ l,b<256)(h0:0<l.length)(hn:l.length<=5000):
 Ok (Qr K Ug x h) fun v h'=>∃ q',Bz h' v q' 5 1 (l++T1 4 (Iw l)).length (Jx (l++T1 4 (Iw l)))/\Ext h h'/\HB h'/\h.next<=q':=by
 unfold Ug
 simp only[Qr,Ab]
 have g3:(h.new (.cells Bc 72)).get h.next=some (.cells Bc 72):=Ae _ _
 have x1:Ext h (h.new (.cells Bc 72)):=A1.new _ _
 generalize h.new (.cells Bc 72)=h1 at g3 x1 ⊢
 have hb1:=x1.hb hb
 rw[Gf g3 rfl,Ax Ru]
 simp only[Ue]
 refine(A6y (K:=K) hK (s.ext hb x1) hb1 hl hn).Aj ?_
 rintro _ h2 ⟨rfl,x2⟩
 have hb2:=x2.hb hb1
 have s2:=(s.ext hb x1).ext hb1 x2
 rw[show B3 [(.int .u8 0)] 5 1 0 [] h2=some (.slice h2.next 0 0 0 false,h2.new (.cells [] 5)) from rfl,A0]
 have x3:Ext h2 (h2.new (.cells [] 5)):=A1.new _ _
 have s3:=s2.ext hb2 x3
 have n3:(h2.new (.cells [] 5)).next=h2.next+1:=rfl
 generalize h2.new (.cells [] 5)=h3 at x3 s3 n3 ⊢
 have hb3:=x3.hb hb2
 refine(Aac (b:=h2.next) (e:=5) s3.len (by omega) s3.cells (by rw[F2,Nat.mul_one]) 0).Aj ?_
 rintro v h4 ⟨q',r4,x4,l4⟩
 have hb4:=x4.hb hb3
 rw[show ∀ k:EV->R,Qx .u8 (Nk .u32 (Iw l)) k=k (Nk .u8 (Iw l % 256)) from fun k=>Ak1]
 rw[show ∀ k:EV->R,Oc (bin TT .shr 70) (Nk .u32 (Iw l)) (.int .u64 8) k=k (Nk .u32 (Iw l / 256)) from fun k=>Ak8 (s:=8) (by decide)]
 rw[show ∀ k:EV->R,Qx .u8 (Nk .u32 (Iw l / 256)) k=k (Nk .u8 (Iw l / 256 % 256)) from fun k=>Ak1]
 rw[show ∀ k:EV->R,Oc (bin TT .shr 70) (Nk .u32 (Iw l)) (.int .u64 16) k=k (Nk .u32 (Iw l / 65536)) from fun k=>Ak8 (s:=16) (by decide)]
 rw[show ∀ k:EV->R,Qx .u8 (Nk .u32 (Iw l / 65536)) k=k (Nk .u8 (Iw l / 65536 % 256)) from fun k=>Ak1]
 rw[show ∀ k:EV->R,Oc (bin TT .shr 70) (Nk .u32 (Iw l)) (.int .u64 24) k=k (Nk .u32 (Iw l / 16777216)) from fun k=>Ak8 (s:=24) (by decide)]
 rw[show ∀ k:EV->R,Qx .u8 (Nk .u32 (Iw l / 16777216)) k=k (Nk .u8 (Iw l / 16777216 % 256)) from fun k=>Ak1]
 rw[A52,A0]
 have x5:Ext h4 (h4.new (.cells (Jx (T1 4 (Iw l))) 5)):=A1.new _ _
 have e5:Jx (T1 4 (Iw l)) = [Nk .u8 (Iw l % 256),Nk .u8 (Iw l / 256 % 256),Nk .u8 (Iw l / 65536 % 256),Nk .u8 (Iw l / 16777216 % 256)]:=by rw[Bai];rfl
 rw[e5]at x5
 have r5:Bz (h4.new (.cells [Nk .u8 (Iw l % 256),Nk .u8 (Iw l / 256 % 256),Nk .u8 (Iw l / 65536 % 256),Nk .u8 (Iw l / 16777216 % 256)] 5)) v q' 5 1 l.length (Jx l):=r4.frame fun y=>x5.get _ (hb4 _ _ (r4.block y)) id
 have g5:(h4.new (.cells [Nk .u8 (Iw l % 256),Nk .u8 (Iw l / 256 % 256),Nk .u8 (Iw l / 65536 % 256),Nk .u8 (Iw l / 16777216 % 256)] 5)).get h4.next=some (.cells [Nk .u8 (Iw l % 256),Nk .u8 (Iw l / 256 % 256),Nk .u8 (Iw l / 65536 % 256),Nk .u8 (Iw l / 16777216 % 256)] 5):=Ae _ _
 have n5:(h4.new (.cells [Nk .u8 (Iw l % 256),Nk .u8 (Iw l / 256 % 256),Nk .u8 (Iw l / 65536 % 256),Nk .u8 (Iw l / 16777216 % 256)] 5)).next=h4.next+1:=rfl
 generalize h4.new (.cells [Nk .u8 (Iw l % 256),Nk .u8 (Iw l / 256 % 256),Nk .u8 (Iw l / 65536 % 256),Nk .u8 (Iw l / 16777216 % 256)] 5)=h5 at x5 r5 g5 n5 ⊢
 have hc5:N4 h5 1 4 (.slice h4.next 0 4 4 false)=some (Jx (T1 4 (Iw l))):=by
  show Vx h5 h4.next 0 4=_
  unfold Vx Wi
  rw[g5,e5];rfl
 obtain⟨h6,e6,r6,n6,c6⟩:=Rj r5 rfl (by decide) (by decide) (by omega) hc5 (by rw[F2,Nr])
 rw[e6,A0]
 have hq:=l4 h0
 have x16:Ext h h6:=by
  refine((x1.trans x2).trans ((x3.trans x4).trans x5)).then c6 fun j hj hlt=>?_
  have:=x1.next;have:=x2.next;have:=hj.2;omega
 refine .ret ⟨h5.next,?_,x16,x16.hb hb,?_⟩
 ·rw[Agl,List.length_append,Nr];exact r6
 ·have:=x1.next;have:=x2.next;have:=x4.next;omega
end Go.Ev

namespace Go.Ev
open Go.Proofs
set_option maxRecDepth 100000
variable {K:Nat}
end Go.Ev

namespace Go.Ev
open Go.Proofs
set_option maxRecDepth 100000
variable {K:Nat}
structure Fr where
 kind:Int
 B4:Int
 off:Int
 Ko:Int
 seq:Int
 body:List Nat
def Fr.cells(f:Fr):List EV:=[I f.kind,I f.B4,I f.off,I f.Ko,I f.seq]++Jx f.body
structure Fr.Wf(f:Fr):Prop where
 len:f.body.length=44
 u8:∀ b ∈ f.body,b<256
def frB(f:Fr):Bool:=wi f.kind 1 5 && (wi f.B4 0 65535 && (wi f.off 0 65535 && (wi f.Ko 1 4294967295 && wi f.seq 0 281474976710655)))
theorem Lh(n a b:Int)(h:Aa):Jp K (.int .i64 n) (.int .i64 a) (.int .i64 b) h=some (.bool (wi n a b),h):=by
 simp only[Jp,Ah,Ab]
 by_cases h1:a<=n
 ·simp only[h1,decide_true,Ab,Ah,Ov,wi,Bool.true_and]
 ·simp only[h1,decide_false,Ab,Ov,wi,Bool.false_and]
theorem Fr.I5 {f:Fr}(w:f.Wf):f.cells.length=49:=by
 unfold Fr.cells;rw[List.length_append,F2,w.len];rfl
theorem Aly {h:Aa}(f:Fr):Ok (L6 K (.agg f.cells) h) fun v h'=>v=.bool (frB f)/\Ext h h':=by
 simp only[L6,Ab]
 have x1:Ext h (h.new (.cells f.cells 120)):=A1.new _ _
 have g1:(h.new (.cells f.cells 120)).get h.next=some (.cells f.cells 120):=Ae _ _
 generalize h.new (.cells f.cells 120)=h1 at x1 g1 ⊢
 have l0:f.cells[0]? = some (I f.kind):=rfl
 have l1:f.cells[1]? = some (I f.B4):=rfl
 have l2:f.cells[2]? = some (I f.off):=rfl
 have l3:f.cells[3]? = some (I f.Ko):=rfl
 have l4:f.cells[4]? = some (I f.seq):=rfl
 simp only[Cl g1 rfl,Ab,l0,I,Lh,Ah]
 unfold frB
 cases wi f.kind 1 5 with
 | false=>simp only[Ab,Jq,He,Ff,Ed,Ah];exact .ret ⟨rfl,x1⟩
 | true=>
 simp only[Ab,Cl g1 rfl,l1,I,Lh,Ah,Jq]
 cases wi f.B4 0 65535 with
 | false=>simp only[Ab,He,Ff,Ed,Ah];exact .ret ⟨rfl,x1⟩
 | true=>
 simp only[Ab,Cl g1 rfl,l2,I,Lh,Ah,He]
 cases wi f.off 0 65535 with
 | false=>simp only[Ab,Ff,Ed,Ah];exact .ret ⟨rfl,x1⟩
 | true=>
 simp only[Ab,Cl g1 rfl,l3,I,Lh,Ah,Ff]
 cases wi f.Ko 1 4294967295 with
 | false=>simp only[Ab,Ed,Ah];exact .ret ⟨rfl,x1⟩
 | true=>
 simp only[Ab,Cl g1 rfl,l4,I,Lh,Ah,Ed]
 exact .ret ⟨by simp only[Bool.true_and],x1⟩
def Aqf(f:Fr):List Nat:=T1 1 f.kind.toNat++T1 1 1++T1 2 f.B4.toNat++T1 2 f.off.toNat++T1 4 f.Ko.toNat++T1 6 f.seq.toNat++f.body
noncomputable def V8(f:Fr):List Nat:=Aqf f++T1 4 (Iw (Aqf f))
theorem Aca(w a:Nat):∀ b ∈ T1 w a,b<256:=fun b hb=>by
 unfold T1 at hb
 obtain⟨i,_,rfl⟩:=List.mem_map.1 hb
 exact Nat.mod_lt _ (by decide)
theorem Ahg {f:Fr}(w:f.Wf):(Aqf f).length=60:=by
 unfold Aqf;simp only[List.length_append,Nr,w.len]
theorem Am9 {f:Fr}(w:f.Wf):(V8 f).length=64:=by
 unfold V8;rw[List.length_append,Ahg w,Nr]
theorem Av1 {f:Fr}(w:f.Wf):∀ b ∈ Aqf f,b<256:=fun b hb=>by
 unfold Aqf at hb
 simp only[List.mem_append]at hb
 rcases hb with (((((hb|hb)|hb)|hb)|hb)|hb)|hb
 ·exact Aca _ _ b hb
 ·exact Aca _ _ b hb
 ·exact Aca _ _ b hb
 ·exact Aca _ _ b hb
 ·exact Aca _ _ b hb
 ·exact Aca _ _ b hb
 ·exact w.u8 b hb
theorem A5h {f:Fr}(w:f.Wf):∀ b ∈ V8 f,b<256:=fun b hb=>by
 unfold V8 at hb
 rcases List.mem_append.1 hb with hb|hb
 ·exact Av1 w b hb
 ·exact Aca _ _ b hb
theorem Ad1 {w:Nat}{v b:Int}(h0:0<=v)(hb:v<=b)(hw:b<(256 ^ w:Nat)):fits w v=true:=decide_eq_true ⟨h0,by omega⟩
theorem Akl {h:Aa}{f:Fr}(w:f.Wf)(hr:frB f=true)(hb:HB h)(hK:10000<K):
 Ok (Qe K Ug (.agg f.cells) h) fun v h'=>v=.tuple [.agg (Jx (V8 f)),I 0]/\Ext h h':=by
 have hr':=hr
 simp only[frB,Bool.and_eq_true]at hr'
 obtain⟨r1,r2,r3,r4,r5⟩:=hr'
 obtain⟨a1,b1⟩:=Tf.1 r1
 obtain⟨a2,b2⟩:=Tf.1 r2
 obtain⟨a3,b3⟩:=Tf.1 r3
 obtain⟨a4,b4⟩:=Tf.1 r4
 obtain⟨a5,b5⟩:=Tf.1 r5
 have l0:f.cells[0]? = some (I f.kind):=rfl
 have l1:f.cells[1]? = some (I f.B4):=rfl
 have l2:f.cells[2]? = some (I f.off):=rfl
 have l3:f.cells[3]? = some (I f.Ko):=rfl
 have l4:f.cells[4]? = some (I f.seq):=rfl
 have hfl:=Fr.I5 w
 unfold Ug
 simp only[Qe,Ab]
 have x1:Ext h (((h.new (.cells Bc 72)).new (.cells f.cells 120)).new (.cells Abf 103)):=((A1.new _ _).Gg _).Gg _
 have g2:(((h.new (.cells Bc 72)).new (.cells f.cells 120)).new (.cells Abf 103)).get h.next=some (.cells Bc 72):=by
  rw[Bj _ (by show h.next<h.next+1+1;omega),Bj _ (Nat.lt_succ_self _)];exact Ae _ _
 have g3:(((h.new (.cells Bc 72)).new (.cells f.cells 120)).new (.cells Abf 103)).get (h.next+1)=some (.cells f.cells 120):=by
  rw[Bj _ (by show h.next+1<h.next+1+1;omega)];exact Ae _ _
 have g4:(((h.new (.cells Bc 72)).new (.cells f.cells 120)).new (.cells Abf 103)).get (h.next+2)=some (.cells Abf 103):=Ae _ _
 have n1:(((h.new (.cells Bc 72)).new (.cells f.cells 120)).new (.cells Abf 103)).next=h.next+3:=rfl
 rw[show (h.new (.cells Bc 72)).next=h.next+1 from rfl,show ((h.new (.cells Bc 72)).new (.cells f.cells 120)).next=h.next+2 from rfl,show List.replicate 64 (EV.int .u8 0)=Abf from rfl]
 generalize ((h.new (.cells Bc 72)).new (.cells f.cells 120)).new (.cells Abf 103)=h1 at x1 g2 g3 g4 n1 ⊢
 have hb1:=x1.hb hb
 rw[Gf g3 rfl,Ax hfl]
 simp only[Ue]
 refine(Aly (K:=K) f).Aj ?_
 rintro _ h2 ⟨rfl,x2⟩
 rw[hr]
 simp only[Ab,Aas]
 have hb2:=x2.hb hb1
 have x12:=x1.trans x2
 have g2:=x2.at hb1 g2
 have g3:=x2.at hb1 g3
 have g4:=x2.at hb1 g4
 have n2:h.next+3<=h2.next:=by have:=x2.next;omega
 have p0:Arq (h2.new (.cells [.Af,.bool false] 278)) h2.next 278 [] false:=⟨.Af,0,Ae _ _,.nil _ _ _ _,fun y=>absurd y (Nat.lt_irrefl _)⟩
 have x3:Ext h2 (h2.new (.cells [.Af,.bool false] 278)):=A1.new _ _
 have g2:=x3.at hb2 g2
 have g3:=x3.at hb2 g3
 have g4:=x3.at hb2 g4
 have hb3:=x3.hb hb2
 have x13:=x12.trans x3
 generalize h2.new (.cells [.Af,.bool false] 278)=h3 at p0 x3 g2 g3 g4 hb3 x13 ⊢
 generalize hP:h2.next=P at p0 n2 ⊢
 have up:∀ {ha hc:Aa},Ext h ha->A1 (fun i=>P<=i) ha hc->Ext h hc:=fun x c=>x.then c fun j hj hl=>by
  have hj:P<=j:=hj
  omega
 have lo:∀ {ha hc:Aa} {i:Nat} {o:Cu},A1 (fun i=>P<=i) ha hc->HB ha->ha.get i=some o->i<P->hc.get i=some o:=fun c hb g hi=>c.at hb g (by omega)
 simp only[Cl g3 rfl,l0]
 simp only[Ue]
 refine(Rk (K:=K) (w:=1) (by omega) p0 hb3 (by simp) (by decide) (by decide) (v:=f.kind) (by omega)).Aj ?_
 rintro _ h5 ⟨p,c,hb5⟩
 rw[Ad1 (b:=5) (by omega) b1 (by decide),if_pos rfl]at p
 have x5:=up x13 c
 have g2:=lo c hb3 g2 (by omega)
 have g3:=lo c hb3 g3 (by omega)
 have g4:=lo c hb3 g4 (by omega)
 refine(Rk (K:=K) (w:=1) (by omega) p hb5 (by simp[Nr]) (by decide) (by decide) (v:=1) (by omega)).Aj ?_
 rintro _ h6 ⟨p,c,hb6⟩
 rw[Ad1 (b:=1) (by omega) (Int.le_refl _) (by decide),if_pos rfl]at p
 have x6:=up x5 c
 have g2:=lo c hb5 g2 (by omega)
 have g3:=lo c hb5 g3 (by omega)
 have g4:=lo c hb5 g4 (by omega)
 simp only[Ab,Cl g3 rfl,l1]
 refine(Rk (K:=K) (w:=2) (by omega) p hb6 (by simp[Nr]) (by decide) (by decide) (v:=f.B4) (by omega)).Aj ?_
 rintro _ h7 ⟨p,c,hb7⟩
 rw[Ad1 (b:=65535) a2 b2 (by decide),if_pos rfl]at p
 have x7:=up x6 c
 have g2:=lo c hb6 g2 (by omega)
 have g3:=lo c hb6 g3 (by omega)
 have g4:=lo c hb6 g4 (by omega)
 simp only[Ab,Cl g3 rfl,l2]
 refine(Rk (K:=K) (w:=2) (by omega) p hb7 (by simp[Nr]) (by decide) (by decide) (v:=f.off) (by omega)).Aj ?_
 rintro _ h8 ⟨p,c,hb8⟩
 rw[Ad1 (b:=65535) a3 b3 (by decide),if_pos rfl]at p
 have x8:=up x7 c
 have g2:=lo c hb7 g2 (by omega)
 have g3:=lo c hb7 g3 (by omega)
 have g4:=lo c hb7 g4 (by omega)
 simp only[Ab,Cl g3 rfl,l3]
 refine(Rk (K:=K) (w:=4) (by omega) p hb8 (by simp[Nr]) (by decide) (by decide) (v:=f.Ko) (by omega)).Aj ?_
 rintro _ h9 ⟨p,c,hb9⟩
 rw[Ad1 (b:=4294967295) (by omega) b4 (by decide),if_pos rfl]at p
 have x9:=up x8 c
 have g2:=lo c hb8 g2 (by omega)
 have g3:=lo c hb8 g3 (by omega)
 have g4:=lo c hb8 g4 (by omega)
 simp only[Ab,Cl g3 rfl,l4]
 refine(Rk (K:=K) (w:=6) (by omega) p hb9 (by simp[Nr]) (by decide) (by decide) (v:=f.seq) (by omega)).Aj ?_
 rintro _ h10 ⟨p,c,hb10⟩
 rw[Ad1 (b:=281474976710655) a5 b5 (by decide),if_pos rfl]at p
 have x10:=up x9 c
 have g2:=lo c hb9 g2 (by omega)
 have g3:=lo c hb9 g3 (by omega)
 have g4:=lo c hb9 g4 (by omega)
 try simp only[Ab]
 rw[show ∀ k:EV->R,Acs 44 1 (.ptr (h.next+1) 5) none none none k=k (.slice (h.next+1) 5 44 44 false) from fun k=>rfl]
 have hcb:N4 h10 1 44 (.slice (h.next+1) 5 44 44 false)=some (Jx f.body):=by
  show Vx h10 (h.next+1) 5 44=_
  unfold Vx Wi
  rw[g3]
  show Na f.cells 5 44=_
  rw[Ki (by rw[hfl];decide)]
  show some (List.take 44 (Jx f.body))=_
  rw[List.take_of_length_le (by rw[F2,w.len];decide)]
 refine(Arl (K:=K) (n:=44) p hb10 (by simp[Nr]) rfl (by decide) (by decide) hcb w.len).Aj ?_
 rintro _ h11 ⟨p,c,hb11⟩
 have x11:=up x10 c
 have g2:=lo c hb10 g2 (by omega)
 have g4:=lo c hb10 g4 (by omega)
 have ep:([]++T1 1 f.kind.toNat++T1 1 (1:Int).toNat++T1 2 f.B4.toNat++T1 2 f.off.toNat++T1 4 f.Ko.toNat++T1 6 f.seq.toNat++f.body)=Aqf f:=by
  unfold Aqf;rw[List.nil_append];rfl
 have ebad:∀ b:Bool,(b || !true)=b:=by decide
 rw[ep]at p
 simp only[ebad]at p
 refine(Au4 (K:=K) p hb11 (by rw[Ahg w];decide)).Aj ?_
 rintro _ h12 ⟨y,q',rfl,ry,x12',hb12,lq⟩
 have g2:=x12'.at hb11 g2
 have g4:=x12'.at hb11 g4
 simp only[Ab,I,Ah]
 simp only[not_true_eq_false,decide_false,Ab,Aau]
 rw[Gf g2 rfl,Ax Ru]
 simp only[Ue]
 have hpos:0<(Aqf f).length:=by rw[Ahg w];decide
 refine(A5e (K:=K) hK (ry.bs hpos) hb12 (Av1 w) hpos (by rw[Ahg w];decide)).Aj ?_
 rintro v h13 ⟨q2,r13,x13',hb13,lq2⟩
 have r13:Bz h13 v q2 5 1 (V8 f).length (Jx (V8 f)):=r13
 have g4:=x13'.at hb12 g4
 have hel:=Am9 w
 have hsl:=r13.slice (by rw[hel];decide)
 subst hsl
 rw[show ∀ k:EV->R,Agy 64 (.slice q2 0 (V8 f).length (V8 f).length true) k=k (.ptr q2 0) from fun k=>by rw[hel];rfl]
 rw[Gf (r13.block (by rw[hel];decide)) rfl,Ax (by rw[F2,hel])]
 simp only[Ue]
 refine Ok.st (Jx (V8 f)) g4 rfl (by show K9 (Jx (V8 f))=64;rw[Dx,F2,hel]) (Gc (by rw[Ag8];show 64=(Jx (V8 f)).length;rw[F2,hel])) ?_
 have g14:(h13.put (h.next+2) (.cells (Jx (V8 f)) 103)).get (h.next+2)=some (.cells (Jx (V8 f)) 103):=Ai _ _ _
 rw[Anb g14 Aox.1 Aox.2 (by rw[F2,hel])]
 have xx:Ext h h13:=x11.trans (x12'.trans x13')
 exact .ret ⟨rfl,xx.Az (.inr (by omega)) (hb13 _ _ g4) _⟩
end Go.Ev

namespace Go.Ev
open Go.Proofs
set_option maxRecDepth 100000
variable {K:Nat}
theorem Ok.A3x {h:Aa}{i o t:Nat}{l:List EV}{v:EV}{kk:Aa->R}{Q:EV->Aa->Prop}(hg:h.get i=some (.cells l t))(hb:HB h)(hp:v.plain=true)(hc:v.cells = [v])(ho:o<l.length)
 (hk:∀ h',h'.get i=some (.cells (l.set o v) t)->A1 (fun j=>j=i) h h'->HB h'->Ok (kk h') Q):Ok (I9 1 (.ptr i o) v h kk) Q:=by
 have lt:=hb _ _ hg
 exact Ok.st1 hg hp hc ho (hk _ (Ai _ _ _) ((A1.refl (S:=fun j=>j=i) h).Az (.inl rfl) lt _) (hb.put lt _))
end Go.Ev

namespace Go.Ev
open Go.Proofs
set_option maxRecDepth 100000
variable {K:Nat}
end Go.Ev

namespace Go.Ev
open Go.Proofs
set_option maxRecDepth 100000
variable {K:Nat}
structure En where
 kind:Int
 first:Int
 count:Int
 block:Int
 many:Int
 A51:Int
 bytes:List Nat
def En.cells(e:En):List EV:=[I e.kind,I e.first,I e.count,I e.block,I e.many,I e.A51]++Jx e.bytes
end Go.Ev

namespace Go.Ev
open Go.Proofs
set_option maxRecDepth 100000
variable {K:Nat}
theorem Awu:TT.size 118=some 44/\TT.agg 118=some true:=⟨by kernel_rfl,by kernel_rfl⟩
end Go.Ev

namespace Go.Ev
open Go.Proofs
set_option maxRecDepth 100000
variable {K:Nat}
end Go.Ev

namespace Go.Ev
open Go.Proofs
set_option maxRecDepth 100000
variable {K:Nat}
end Go.Ev

namespace Go.Ev
open Go.Proofs
set_option maxRecDepth 100000
variable {K:Nat}
end Go.Ev

namespace Go.Ev
open Go.Proofs
set_option maxRecDepth 100000
end Go.Ev
