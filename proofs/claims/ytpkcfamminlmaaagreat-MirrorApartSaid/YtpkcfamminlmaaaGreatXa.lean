import Derived.Test.YtpkcfamminlmaaaGreatDa
import Derived.Test.YtpkcfamminlmaaaGreatWa
set_option linter.unusedVariables false
set_option linter.unusedSimpArgs false
set_option linter.unusedSectionVars false
namespace Go.Ev
open Go.Proofs
set_option maxRecDepth 10000
structure Gm where
 D:Int
 Z:Int
 S:Int
 B:Int
 P:Int
 O:Int
def gL(g:Gm):List EV:=[I g.D,I g.Z,I g.S,I g.B,I g.P,I g.O]
def gV(g:Gm):EV:=.agg (gL g)
def Gm.parts(g:Gm):Int:=1+(g.B+1) / 2
def Gm.Afx(g:Gm):Int:=g.D*g.P+4
def Gm.least(g:Gm):Int:=min ((g.D-1)*(g.Z-g.P-2)-g.Afx+1) (g.D*(g.Z-g.P-2)-2*g.Afx+1)
def Gm.segments(g:Gm):Int:=g.least / 2-1-g.D*g.P
def wi(n a b:Int):Bool:=decide (a<=n) && decide (n<=b)
theorem Iy {n a b:Int}:wi n a b=true ↔ a<=n/\n<=b:=by simp[wi]
def smB(g:Gm):Bool:=wi g.D 3 8 && wi g.Z 1 64 && wi g.S 4 64 && wi g.B 1 256 && wi g.P 0 4 && wi g.O 4 64
def rtB(g:Gm):Bool:=smB g && (decide (g.parts<=g.S) && decide (2*g.B<=g.S*g.segments))
structure Sm(g:Gm):Prop where
 d0:3<=g.D
 d1:g.D<=8
 z0:1<=g.Z
 z1:g.Z<=64
 s0:4<=g.S
 s1:g.S<=64
 b0:1<=g.B
 b1:g.B<=256
 p0:0<=g.P
 p1:g.P<=4
 o0:4<=g.O
 o1:g.O<=64
theorem O5 {g:Gm}(h:smB g=true):Sm g:=by
 simp only[smB,Bool.and_eq_true,Iy]at h
 exact⟨h.1.1.1.1.1.1,h.1.1.1.1.1.2,h.1.1.1.1.2.1,h.1.1.1.1.2.2,h.1.1.1.2.1,h.1.1.1.2.2,h.1.1.2.1,h.1.1.2.2,h.1.2.1,h.1.2.2,h.2.1,h.2.2⟩
theorem Adr {g:Gm}(h:rtB g=true):Sm g:=O5 (by unfold rtB at h;exact((Bool.and_eq_true _ _).mp h).1)
theorem Un {a b A B:Int}(h0:0<=a)(h1:a<=A)(h2:0<=b)(h3:b<=B):0<=a*b/\a*b<=A*B:=
 ⟨Int.mul_nonneg h0 h2,Int.mul_le_mul h1 h3 h2 (Int.le_trans h0 h1)⟩
theorem Ai5 {a b A B:Int}(h0:0<=a)(h1:a<=A)(h2 : -B<=b)(h3:b<=B)(hB:0<=B): -(A*B)<=a*b/\a*b<=A*B:=by
 have e1:a*b<=a*B:=Int.mul_le_mul_of_nonneg_left h3 h0
 have e2:a*B<=A*B:=Int.mul_le_mul_of_nonneg_right h1 hB
 have e3:a*(-B)<=a*b:=Int.mul_le_mul_of_nonneg_left h2 h0
 rw[Int.mul_neg]at e3
 omega
theorem A8e {T:D4}{t:Nat}{a:Int}{k:EV->R}:N1 (bin T .shr t) (.int .i64 a) (.int .u64 1) k=k (.int .i64 (a / 2)):=by
 cases a with
 | ofNat a=>
  show k (.int .i64 (.ofNat (Nat.shiftRight a 1)))=_
  rw[show Nat.shiftRight a 1=a / 2 from Nat.shiftRight_succ a 0];rfl
 | negSucc a=>
  show k (.int .i64 ((Int.negSucc a).fdiv (.ofNat 2)))=_
  rw[Int.fdiv_eq_ediv_of_nonneg _ (by decide)];rfl
theorem A12(a b:Int):ltB a b=decide (a<b):=by rw[<-Asw,Afw]
theorem min2 {T:D4}{ts:Array TypeId}{a b:Int}{h:Aa}:builtin T .min ts [.int .i64 a,.int .i64 b] h=some (.int .i64 (min a b),h):=by
 simp only[builtin,Tv,Aw,A12]
 rw[A2h]
 by_cases h1:b<a
 ·rw[if_pos h1,Int.min_eq_right (by omega)]
 ·rw[if_neg h1,Int.min_eq_left (by omega)]
section
variable {K:Nat}
theorem U0(n a b:Int)(h:Aa):Hi K (I n) (I a) (I b) h=some (.bool (wi n a b),h):=by
 simp only[Hi,Uf,I,Ad,A5h]
 by_cases h1:a<=n
 ·simp only[h1,decide_true,Ai,Akk,wi,Bool.true_and]
 ·simp only[h1,decide_false,Aw,Akk,wi,Bool.false_and]
theorem Amj(g:Gm)(h:Aa):Ow K (gV g) h=some (.bool (smB g),h.new (.cells (gL g) 23)):=by
 simp only[Ow,gV,Ab]
 have hg:(h.new (.cells (gL g) 23)).get h.next=some (.cells (gL g) 23):=Ae _ _
 generalize h.new (.cells (gL g) 23)=h1 at hg ⊢
 have w:=fun n a b=>U0 (K:=K) n a b h1
 simp only[I]at w
 simp only[Ab,B2 hg rfl,gL,I,w,Ad]
 unfold smB
 cases wi g.D 3 8 with
 | false=>simp only[Ab,Ad,D8,D7,Ec,Ea,Eh,Bool.false_and]
 | true=>
 simp only[Ab,B2 hg rfl,gL,I,w,Ad,D8]
 cases wi g.Z 1 64 with
 | false=>simp only[Ab,Ad,D8,D7,Ec,Ea,Eh,Bool.false_and,Bool.and_false]
 | true=>
 simp only[Ab,B2 hg rfl,gL,I,w,Ad,D7]
 cases wi g.S 4 64 with
 | false=>simp only[Ab,Ad,D8,D7,Ec,Ea,Eh,Bool.false_and,Bool.and_false]
 | true=>
 simp only[Ab,B2 hg rfl,gL,I,w,Ad,Ec]
 cases wi g.B 1 256 with
 | false=>simp only[Ab,Ad,D8,D7,Ec,Ea,Eh,Bool.false_and,Bool.and_false]
 | true=>
 simp only[Ab,B2 hg rfl,gL,I,w,Ad,Ea]
 cases wi g.P 0 4 with
 | false=>simp only[Ab,Ad,D8,D7,Ec,Ea,Eh,Bool.false_and,Bool.and_false]
 | true=>
 simp only[Ab,B2 hg rfl,gL,I,w,Ad,Eh,Bool.true_and]
theorem Amg {g:Gm}(s:Sm g)(h:Aa):Oz K (gV g) h=some (I g.parts,h.new (.cells (gL g) 23)):=by
 have:=s.b0;have:=s.b1
 simp only[Oz,gV,Ab]
 have hg:(h.new (.cells (gL g) 23)).get h.next=some (.cells (gL g) 23):=Ae _ _
 generalize h.new (.cells (gL g) 23)=h1 at hg ⊢
 simp only[Ab,B2 hg rfl,gL,I,Ad]
 rw[C6 (n:=g.B+2) (by omega) (by omega),C6 (n:=g.B+2-1) (by omega) (by omega),Ay3 (by omega) (by omega) (by omega)]
 simp only[Ad]
 rw[C6 (by omega) (by omega)]
 rw[show 1+(g.B+2-1) / 2=g.parts by unfold Gm.parts;rw[show g.B+2-1=g.B+1 by omega]]
theorem Ail {g:Gm}(s:Sm g)(h:Aa):Mw K (gV g) h=some (I g.Afx,h.new (.cells (gL g) 23)):=by
 have:=s.d0;have:=s.d1;have:=s.p0;have:=s.p1
 obtain⟨m0,m1⟩:=Un (a:=g.D) (b:=g.P) (A:=8) (B:=4) (by omega) (by omega) (by omega) (by omega)
 simp only[Mw,gV,Ab]
 have hg:(h.new (.cells (gL g) 23)).get h.next=some (.cells (gL g) 23):=Ae _ _
 generalize h.new (.cells (gL g) 23)=h1 at hg ⊢
 simp only[Ab,B2 hg rfl,gL,I,Ad]
 rw[C6 (n:=g.D*g.P) (by omega) (by omega),C6 (by omega) (by omega)];rfl
theorem Vr {g:Gm}(s:Sm g)(h:Aa):J7 K (gV g) h=some (I (g.D*g.Z),h.new (.cells (gL g) 23)):=by
 have:=s.d0;have:=s.d1;have:=s.z0;have:=s.z1
 obtain⟨m0,m1⟩:=Un (a:=g.D) (b:=g.Z) (A:=8) (B:=64) (by omega) (by omega) (by omega) (by omega)
 simp only[J7,gV,Ab]
 have hg:(h.new (.cells (gL g) 23)).get h.next=some (.cells (gL g) 23):=Ae _ _
 generalize h.new (.cells (gL g) 23)=h1 at hg ⊢
 simp only[Ab,B2 hg rfl,gL,I,Ad]
 rw[C6 (n:=g.D*g.Z) (by omega) (by omega)]
theorem Sm.A1o {g:Gm}(s:Sm g):(0<=g.D*g.P/\g.D*g.P<=32)/\(-640<=(g.D-1)*(g.Z-g.P-2)/\(g.D-1)*(g.Z-g.P-2)<=640)/\(-640<=g.D*(g.Z-g.P-2)/\g.D*(g.Z-g.P-2)<=640):=by
 have:=s.d0;have:=s.d1;have:=s.p0;have:=s.p1;have:=s.z0;have:=s.z1
 obtain⟨a0,a1⟩:=Un (a:=g.D) (b:=g.P) (A:=8) (B:=4) (by omega) (by omega) (by omega) (by omega)
 obtain⟨b0,b1⟩:=Ai5 (a:=g.D-1) (b:=g.Z-g.P-2) (A:=10) (B:=64) (by omega) (by omega) (by omega) (by omega) (by omega)
 obtain⟨c0,c1⟩:=Ai5 (a:=g.D) (b:=g.Z-g.P-2) (A:=10) (B:=64) (by omega) (by omega) (by omega) (by omega) (by omega)
 omega
theorem Ahk {g:Gm}(s:Sm g)(h:Aa):Ok (Lp K (gV g) h) fun v h'=>v=I g.segments/\Ext h h':=by
 obtain⟨⟨a0,a1⟩,⟨b0,b1⟩,c0,c1⟩:=s.A1o
 have:=s.d0;have:=s.d1;have:=s.p0;have:=s.p1;have:=s.z0;have:=s.z1
 simp only[Lp,gV,Ab]
 have hg:(h.new (.cells (gL g) 23)).get h.next=some (.cells (gL g) 23):=Ae _ _
 have hn:h.next<(h.new (.cells (gL g) 23)).next:=Nat.lt_succ_self _
 have hx:Ext h (h.new (.cells (gL g) 23)):=A4.new _ _
 generalize h.new (.cells (gL g) 23)=h1 at hg hn hx ⊢
 simp only[Ab,Bo,Aq hn,B2 hg rfl,F4 hg rfl,Av (show (gL g).length=6 from rfl),gL,I,Ad]
 rw[C6 (n:=g.Z-g.P) (by omega) (by omega),C6 (n:=g.Z-g.P-2) (by omega) (by omega)]
 refine Ok.Cs (by kernel_rfl) (by kernel_rfl) (P:=fun v h2=>v=I g.Afx/\Ext h1.lift h2) ⟨_,_,Ail s _,rfl,A4.new _ _⟩ (fun _ _ p=>p.2) ?_
 rintro _ h2 h3 ⟨rfl,_⟩ _ x3
 have hg3:h3.get h.next=some (.cells (gL g) 23):=by rw[x3.get _ hn id];exact hg
 simp only[Ab,B2 hg3 rfl,gL,I,Ad]
 unfold Gm.Afx
 rw[C6 (n:=g.D-1) (by omega) (by omega),C6 (n:=(g.D-1)*(g.Z-g.P-2)) (by omega) (by omega),C6 (n:=(g.D-1)*(g.Z-g.P-2)-(g.D*g.P+4)) (by omega) (by omega),C6 (n:=(g.D-1)*(g.Z-g.P-2)-(g.D*g.P+4)+1) (by omega) (by omega),
  C6 (n:=g.D*(g.Z-g.P-2)) (by omega) (by omega),C6 (n:=2*(g.D*g.P+4)) (by omega) (by omega),C6 (n:=g.D*(g.Z-g.P-2)-2*(g.D*g.P+4)) (by omega) (by omega),C6 (n:=g.D*(g.Z-g.P-2)-2*(g.D*g.P+4)+1) (by omega) (by omega),
  min2,Bf,A8e]
 simp only[Ad,Ab,B2 hg3 rfl,gL,I]
 have hl:g.least=min ((g.D-1)*(g.Z-g.P-2)-(g.D*g.P+4)+1) (g.D*(g.Z-g.P-2)-2*(g.D*g.P+4)+1):=rfl
 rw[<-hl]
 have hl0 : -10000<=g.least:=by omega
 have hl1:g.least<=10000:=by omega
 rw[C6 (n:=g.least / 2-1) (by omega) (by omega),C6 (n:=g.D*g.P) (by omega) (by omega),C6 (n:=g.least / 2-1-g.D*g.P) (by omega) (by omega)]
 exact .ret ⟨rfl,hx.trans x3⟩
end
end Go.Ev

namespace Go.Ev
open Go.Proofs
set_option maxRecDepth 10000
variable {K:Nat}
theorem A1u {g:Gm}(s:Sm g): -2000<=g.segments/\g.segments<=2000:=by
 obtain⟨⟨a0,a1⟩,⟨b0,b1⟩,c0,c1⟩:=s.A1o
 have hl:g.least=min ((g.D-1)*(g.Z-g.P-2)-(g.D*g.P+4)+1) (g.D*(g.Z-g.P-2)-2*(g.D*g.P+4)+1):=rfl
 have hs:g.segments=g.least / 2-1-g.D*g.P:=rfl
 omega
theorem Wv(g:Gm)(h:Aa):Ok (Jg K (gV g) h) fun v h'=>v=.bool (rtB g)/\Ext h h':=by
 simp only[Jg,gV,Ab]
 have hg:(h.new (.cells (gL g) 23)).get h.next=some (.cells (gL g) 23):=Ae _ _
 have hn:h.next<(h.new (.cells (gL g) 23)).next:=Nat.lt_succ_self _
 have hx:Ext h (h.new (.cells (gL g) 23)):=A4.new _ _
 generalize h.new (.cells (gL g) 23)=h1 at hg hn hx ⊢
 simp only[Ab,Bo,Aq hn,B2 hg rfl,F4 hg rfl,Av (show (gL g).length=6 from rfl)]
 refine Ok.Cs (by kernel_rfl) (by kernel_rfl) (P:=fun v h2=>v=.bool (smB g)/\Ext h1.lift h2) ⟨_,_,Amj g _,rfl,A4.new _ _⟩ (fun _ _ p=>p.2) ?_
 rintro _ h2 h3 ⟨rfl,_⟩ _ x3
 have hg3:h3.get h.next=some (.cells (gL g) 23):=by rw[x3.get _ hn id];exact hg
 unfold rtB
 cases hs:smB g with
 | false=>simp only[Ab,Ad,Lg,Iv,Bool.false_and];exact .ret ⟨rfl,hx.trans x3⟩
 | true=>
 have s:=O5 hs
 have:=s.b0;have:=s.b1
 simp only[Ab,Ad,Bo,Aq hn,B2 hg3 rfl,F4 hg3 rfl,Av (show (gL g).length=6 from rfl),Bool.true_and]
 refine Ok.Cs (by kernel_rfl) (by kernel_rfl) (P:=fun v h4=>v=I g.parts/\Ext h3.lift h4) ⟨_,_,Amg s _,rfl,A4.new _ _⟩ (fun _ _ p=>p.2) ?_
 rintro _ h4 h5 ⟨rfl,_⟩ _ x5
 have x5':=x3.trans x5
 have hg5:h5.get h.next=some (.cells (gL g) 23):=by rw[x5'.get _ hn id];exact hg
 simp only[Ab,Ad,Bo,Aq hn,B2 hg5 rfl,gL,I,Lg]
 by_cases hp:g.parts<=g.S
 ·simp only[hp,decide_true,Ab,Bo,Aq hn,B2 hg5 rfl,F4 hg5 rfl,Av (show (gL g).length=6 from rfl),gL,I,Ad,Bool.true_and]
  refine Ok.Cs (by kernel_rfl) (by kernel_rfl) (Ahk s _) (fun _ _ p=>p.2) ?_
  rintro _ h6 h7 ⟨rfl,_⟩ _ x7
  obtain⟨t0,t1⟩:=A1u s
  have:=s.s0;have:=s.s1
  obtain⟨m0,m1⟩:=Ai5 (a:=g.S) (b:=g.segments) (A:=64) (B:=2000) (by omega) (by omega) (by omega) (by omega) (by omega)
  simp only[Ad,I,Iv,Ab]
  rw[C6 (n:=2*g.B) (by omega) (by omega),C6 (n:=g.S*g.segments) (by omega) (by omega)]
  exact .ret ⟨rfl,hx.trans (x5'.trans x7)⟩
 ·simp only[hp,decide_false,Ab,Ad,Iv,Bool.false_and]
  exact .ret ⟨rfl,hx.trans x5'⟩
theorem A20 {n:Int}(h0 : -100000<=n)(h1:n<=100000)(h:Aa):Kl K (I n) h=some (I (n / 2),h):=by
 simp only[Kl,I,Ad,Ab]
 by_cases hn:n<0
 ·simp only[hn,decide_true,Ab,Ad]
  rw[C6 (by omega) (by omega),Ay3 (by omega) (by omega) (by omega)]
  simp only[A1p]
  rw[C6 (by omega) (by omega),show 0-(1-n) / 2=n / 2 by omega]
 ·simp only[hn,decide_false,Ab,Qh]
  rw[Ay3 (by omega) (by omega) (by omega)]
theorem Ap3 {g:Gm}(s:Sm g){a:Nat}{h:Aa}(hg:h.get a=some (.cells (gL g) 37)):∀ (m:Nat) (i:Int),0<=i->(g.B-i).toNat<m->i<=g.B+1->i % 2=0 ->
 B4 K m (.ptr a 0) (I (1+i / 2)) (I i) h=some (I g.parts,h):=by
 have:=s.b0;have:=s.b1
 intro m
 induction m with
 | zero=>intro i _ hm;omega
 | succ m ih=>
  intro i hi hm hle hev
  simp only[B4,Ab,Ad,B2 hg rfl,gL,I]
  by_cases hlt:i<g.B
  ·simp only[hlt,decide_true,Ab,Ad,N5,N4]
   rw[C6 (n:=1+i / 2+1) (by omega) (by omega),C6 (n:=i+2) (by omega) (by omega),show 1+i / 2+1=1+(i+2) / 2 by omega]
   exact ih (i+2) (by omega) (by omega) (by omega) (by omega)
  ·simp only[hlt,decide_false,Ab,Jd]
   unfold Gm.parts
   rw[show 1+i / 2=1+(g.B+1) / 2 by omega]
theorem Ax6 {g:Gm}(s:Sm g)(hK:1000<K)(h:Aa):H8 K (gV g) h=some (I g.parts,h.new (.cells (gL g) 37)):=by
 have:=s.b0;have:=s.b1
 simp only[H8,gV,Ab]
 exact Ap3 s (Ae _ _) K 0 (by omega) (by omega) (by omega) (by omega)
theorem Ape {g:Gm}(s:Sm g)(h:Aa):Ok (Gs K (gV g) h) fun v h'=>v=I g.segments/\Ext h h':=by
 obtain⟨⟨a0,a1⟩,⟨b0,b1⟩,c0,c1⟩:=s.A1o
 have:=s.d0;have:=s.d1;have:=s.p0;have:=s.p1;have:=s.z0;have:=s.z1
 simp only[Gs,gV,Ab]
 have hg:(h.new (.cells (gL g) 37)).get h.next=some (.cells (gL g) 37):=Ae _ _
 have hn:h.next<(h.new (.cells (gL g) 37)).next:=Nat.lt_succ_self _
 have hx:Ext h (h.new (.cells (gL g) 37)):=A4.new _ _
 generalize h.new (.cells (gL g) 37)=h1 at hg hn hx ⊢
 have hl:g.least=min ((g.D-1)*(g.Z-g.P-2)-(g.D*g.P+4)+1) (g.D*(g.Z-g.P-2)-2*(g.D*g.P+4)+1):=rfl
 have fin:∀ n,n=g.least->Ok (Fo K (.ptr h.next 0) (I n) h1) fun v h'=>v=I g.segments/\Ext h h':=by
  rintro _ rfl
  simp only[Fo,Ab]
  refine Ok.Cs (by kernel_rfl) (by kernel_rfl) (P:=fun v h2=>v=I (g.least / 2)/\Ext h1.lift h2) ⟨_,_,A20 (by omega) (by omega) _,rfl,A4.refl _⟩ (fun _ _ p=>p.2) ?_
  rintro _ h2 h3 ⟨rfl,_⟩ _ x3
  have hg3:h3.get h.next=some (.cells (gL g) 37):=by rw[x3.get _ hn id];exact hg
  simp only[Ab,Bo,Aq hn,B2 hg3 rfl,gL,I,Ad]
  rw[C6 (n:=g.least / 2-1) (by omega) (by omega),C6 (n:=g.D*g.P) (by omega) (by omega),C6 (n:=g.least / 2-1-g.D*g.P) (by omega) (by omega)]
  exact .ret ⟨rfl,hx.trans x3⟩
 simp only[Ab,B2 hg rfl,gL,I,Ad]
 rw[C6 (n:=g.Z-g.P) (by omega) (by omega),C6 (n:=g.Z-g.P-2) (by omega) (by omega),C6 (n:=g.D*g.P) (by omega) (by omega),C6 (n:=g.D*g.P+4) (by omega) (by omega),
  C6 (n:=g.D-1) (by omega) (by omega),C6 (n:=(g.D-1)*(g.Z-g.P-2)) (by omega) (by omega),C6 (n:=(g.D-1)*(g.Z-g.P-2)-(g.D*g.P+4)) (by omega) (by omega),C6 (n:=(g.D-1)*(g.Z-g.P-2)-(g.D*g.P+4)+1) (by omega) (by omega),
  C6 (n:=g.D*(g.Z-g.P-2)) (by omega) (by omega),C6 (n:=2*(g.D*g.P+4)) (by omega) (by omega),C6 (n:=g.D*(g.Z-g.P-2)-2*(g.D*g.P+4)) (by omega) (by omega),C6 (n:=g.D*(g.Z-g.P-2)-2*(g.D*g.P+4)+1) (by omega) (by omega)]
 by_cases hlt:g.D*(g.Z-g.P-2)-2*(g.D*g.P+4)+1<(g.D-1)*(g.Z-g.P-2)-(g.D*g.P+4)+1
 ·simp only[hlt,decide_true,Ab]
  exact fin _ (by omega)
 ·simp only[hlt,decide_false,Ab]
  exact fin _ (by omega)
theorem Ayc(g:Gm)(hK:1000<K)(h:Aa):Ok (Ia K (gV g) h) fun v h'=>v=.bool (rtB g)/\Ext h h':=by
 simp only[Ia,gV,Ab]
 have hg:(h.new (.cells (gL g) 37)).get h.next=some (.cells (gL g) 37):=Ae _ _
 have hn:h.next<(h.new (.cells (gL g) 37)).next:=Nat.lt_succ_self _
 have hx:Ext h (h.new (.cells (gL g) 37)):=A4.new _ _
 generalize h.new (.cells (gL g) 37)=h1 at hg hn hx ⊢
 have no:∀ b,b=false->Ok (some (.bool false,h1)) fun v h'=>v=.bool (b && (decide (g.parts<=g.S) && decide (2*g.B<=g.S*g.segments)))/\Ext h h':=by
  rintro _ rfl;exact .ret ⟨by rw[Bool.false_and],hx⟩
 unfold rtB
 have hsm:∀ {p:Prop} [Decidable p],¬ p->(smB g=true->p)->smB g=false:=fun hp hq=>by
  cases hb:smB g with
  | false=>rfl
  | true=>exact absurd (hq hb) hp
 simp only[Ab,B2 hg rfl,gL,I,Ad]
 by_cases c1:g.D<3
 ·simp only[c1,decide_true,Ab,Ad,Ga,Ed,C2,Cm,B5,B1,Br,Bn,Bb,A7,A5]
  exact no _ (hsm (p:=¬ g.D<3) (by simpa using c1) fun hb=>by have:=(O5 hb).d0;omega)
 simp only[c1,decide_false,Ab,Ad,B2 hg rfl,gL,I,Ga]
 by_cases c2:8<g.D
 ·simp only[c2,decide_true,Ab,Ad,Ed,C2,Cm,B5,B1,Br,Bn,Bb,A7,A5]
  exact no _ (hsm (p:=¬ 8<g.D) (by simpa using c2) fun hb=>by have:=(O5 hb).d1;omega)
 simp only[c2,decide_false,Ab,Ad,B2 hg rfl,gL,I,Ed]
 by_cases c3:g.Z<1
 ·simp only[c3,decide_true,Ab,Ad,C2,Cm,B5,B1,Br,Bn,Bb,A7,A5]
  exact no _ (hsm (p:=¬ g.Z<1) (by simpa using c3) fun hb=>by have:=(O5 hb).z0;omega)
 simp only[c3,decide_false,Ab,Ad,B2 hg rfl,gL,I,C2]
 by_cases c4:64<g.Z
 ·simp only[c4,decide_true,Ab,Ad,Cm,B5,B1,Br,Bn,Bb,A7,A5]
  exact no _ (hsm (p:=¬ 64<g.Z) (by simpa using c4) fun hb=>by have:=(O5 hb).z1;omega)
 simp only[c4,decide_false,Ab,Ad,B2 hg rfl,gL,I,Cm]
 by_cases c5:g.S<4
 ·simp only[c5,decide_true,Ab,Ad,B5,B1,Br,Bn,Bb,A7,A5]
  exact no _ (hsm (p:=¬ g.S<4) (by simpa using c5) fun hb=>by have:=(O5 hb).s0;omega)
 simp only[c5,decide_false,Ab,Ad,B2 hg rfl,gL,I,B5]
 by_cases c6:64<g.S
 ·simp only[c6,decide_true,Ab,Ad,B1,Br,Bn,Bb,A7,A5]
  exact no _ (hsm (p:=¬ 64<g.S) (by simpa using c6) fun hb=>by have:=(O5 hb).s1;omega)
 simp only[c6,decide_false,Ab,Ad,B2 hg rfl,gL,I,B1]
 by_cases c7:g.B<1
 ·simp only[c7,decide_true,Ab,Ad,Br,Bn,Bb,A7,A5]
  exact no _ (hsm (p:=¬ g.B<1) (by simpa using c7) fun hb=>by have:=(O5 hb).b0;omega)
 simp only[c7,decide_false,Ab,Ad,B2 hg rfl,gL,I,Br]
 by_cases c8:256<g.B
 ·simp only[c8,decide_true,Ab,Ad,Bn,Bb,A7,A5]
  exact no _ (hsm (p:=¬ 256<g.B) (by simpa using c8) fun hb=>by have:=(O5 hb).b1;omega)
 simp only[c8,decide_false,Ab,Ad,B2 hg rfl,gL,I,Bn]
 by_cases c9:g.P<0
 ·simp only[c9,decide_true,Ab,Ad,Bb,A7,A5]
  exact no _ (hsm (p:=¬ g.P<0) (by simpa using c9) fun hb=>by have:=(O5 hb).p0;omega)
 simp only[c9,decide_false,Ab,Ad,B2 hg rfl,gL,I,Bb]
 by_cases d1:4<g.P
 ·simp only[d1,decide_true,Ab,Ad,A7,A5]
  exact no _ (hsm (p:=¬ 4<g.P) (by simpa using d1) fun hb=>by have:=(O5 hb).p1;omega)
 simp only[d1,decide_false,Ab,Ad,B2 hg rfl,gL,I,A7]
 by_cases d2:g.O<4
 ·simp only[d2,decide_true,Ab,Ad,A5]
  exact no _ (hsm (p:=¬ g.O<4) (by simpa using d2) fun hb=>by have:=(O5 hb).o0;omega)
 simp only[d2,decide_false,Ab,Ad,B2 hg rfl,gL,I,A5]
 by_cases d3:64<g.O
 ·simp only[d3,decide_true,Ab]
  exact no _ (hsm (p:=¬ 64<g.O) (by simpa using d3) fun hb=>by have:=(O5 hb).o1;omega)
 have hs:smB g=true:=by
  simp only[smB,Bool.and_eq_true,Iy];omega
 have s:=O5 hs
 rw[hs]
 simp only[d3,decide_false,Ab,Ad,N8,Bo,Aq hn,F4 hg rfl,Av (show (gL g).length=6 from rfl),Bool.true_and]
 refine Ok.Cs (by kernel_rfl) (by kernel_rfl) (P:=fun v h4=>v=I g.parts/\Ext h1.lift h4) ⟨_,_,Ax6 s hK _,rfl,A4.new _ _⟩ (fun _ _ p=>p.2) ?_
 rintro _ h4 h5 ⟨rfl,_⟩ _ x5
 have hg5:h5.get h.next=some (.cells (gL g) 37):=by rw[x5.get _ hn id];exact hg
 simp only[Ab,Ad,Bo,Aq hn,B2 hg5 rfl,gL,I]
 by_cases hp:g.parts<=g.S
 ·simp only[hp,decide_true,Ab,Bo,Aq hn,B2 hg5 rfl,F4 hg5 rfl,Av (show (gL g).length=6 from rfl),gL,I,Ad,Bool.true_and]
  refine Ok.Cs (by kernel_rfl) (by kernel_rfl) (Ape s _) (fun _ _ p=>p.2) ?_
  rintro _ h6 h7 ⟨rfl,_⟩ _ x7
  obtain⟨t0,t1⟩:=A1u s
  have:=s.s0;have:=s.s1;have:=s.b0;have:=s.b1
  obtain⟨m0,m1⟩:=Ai5 (a:=g.S) (b:=g.segments) (A:=64) (B:=2000) (by omega) (by omega) (by omega) (by omega) (by omega)
  simp only[Ad,I,Gt,Ab]
  rw[C6 (n:=2*g.B) (by omega) (by omega),C6 (n:=g.S*g.segments) (by omega) (by omega)]
  exact .ret ⟨rfl,hx.trans (x5.trans x7)⟩
 ·simp only[hp,decide_false,Ab,Ad,Gt,Bool.false_and]
  exact .ret ⟨rfl,hx.trans x5⟩
end Go.Ev

namespace Go.Ev
open Go.Proofs
set_option maxRecDepth 10000
variable {K:Nat}
theorem Anw {n:Nat}(h1:1<=n)(h2:n<=4096)(h:Aa):Xu K (I n) h=some (.tuple [.ptr (h.next+1) 0,I 0],(h.new (.chan n [])).new (.cells [.chan h.next] 218)):=by
 simp only[Xu,I,Ad,Ab]
 have a:¬ (n:Int)<1:=by omega
 have b:¬ (4096:Int)<(n:Int):=by omega
 simp only[a,b,decide_false,Ab,Ad,Yk,Afv]
 have hm:Acs (.int .i64 (n:Int)) h=some (.chan h.next,h.new (.chan n [])):=by
  show Ao (Nat.ble n 65536) _ none=_
  rw[Nat.ble_eq_true_of_le (by omega),Ai]
 rw[hm,Bf,Cu (l:=[.chan h.next]) rfl]
 simp only[Ab];rfl
structure Dj(h:Aa)(p ql n:Nat)(q c:Nat->Nat)(g:Gm)(ps:Nat->List Int):Prop where
 pos:0<n
 Ft:h.get p=some (.cells (gL g++[.slice ql 0 n n true]) 152)
 row:h.get ql=some (.vec ((List.range n).map fun d=>.ptr (q d) 0) 153 1)
 que:∀ d,d<n->h.get (q d)=some (.cells [.chan (c d)] 218)
 chan:∀ d,d<n->h.get (c d)=some (.chan g.Z.toNat ((ps d).map I))
 inj:∀ d e,d<n->e<n->c d=c e->d=e
structure As3(h0 h:Aa)(p ql i:Nat)(q c:Nat->Nat)(g:Gm)(s:EV):Prop where
 Ft:h.get p=some (.cells (gL g++[s]) 152)
 row:B0 h s ql 153 1 i ((List.range i).map fun d=>.ptr (q d) 0)
 que:∀ d,d<i->h.get (q d)=some (.cells [.chan (c d)] 218)
 chan:∀ d,d<i->h.get (c d)=some (.chan g.Z.toNat [])
 inj:∀ d e,d<i->e<i->c d=c e->d=e
 new:h0.next<=p/\(0<i->h0.next<=ql)/\∀ d,d<i->h0.next<=q d/\h0.next<=c d
 ext:Ext h0 h
 hb:HB h
theorem Amc {g:Gm}(s:Sm g)(h0:Aa){b p:Nat}(hbp:b<h0.next)(hg:h0.get b=some (.cells (gL g) 23)):∀ (m i:Nat) (ql:Nat) (q c:Nat->Nat) (sl:EV) (h:Aa),g.D.toNat-i<m->i<=g.D.toNat->As3 h0 h p ql i q c g sl ->
 Ok (Lb K m (.ptr b 0) (.ptr p 0) (I g.D) (I i) h) fun v h'=>v=.tuple [.ptr p 0,I 0]/\Ext h0 h'/\HB h'/\∃ ql q c sl,As3 h0 h' p ql g.D.toNat q c g sl:=by
 have:=s.d0;have:=s.d1;have:=s.z0;have:=s.z1
 intro m
 induction m with
 | zero=>intro i _ _ _ _ _ hm;omega
 | succ m ih=>
  intro i ql q c sl h hm hi P
  simp only[Lb,I,Ad,Ab]
  by_cases hlt:(i:Int)<g.D
  ·have hgb:h.get b=some (.cells (gL g) 23):=by rw[P.ext.get _ hbp id];exact hg
   simp only[hlt,decide_true,Ab,Ahr,B2 hgb rfl,gL,I]
   have hq:=Anw (K:=K) (n:=g.Z.toNat) (by omega) (by omega) h
   rw[Int.toNat_of_nonneg (by omega)]at hq
   simp only[I]at hq
   simp only[hq,Ab,Ad,not_true_eq_false,decide_false,Ahv]
   have e1:Ext h ((h.new (.chan g.Z.toNat [])).new (.cells [.chan h.next] 218)):=(A4.new _ _).trans (A4.new _ _)
   have hb1:HB ((h.new (.chan g.Z.toNat [])).new (.cells [.chan h.next] 218)):=(P.hb.new _).new _
   have gq:((h.new (.chan g.Z.toNat [])).new (.cells [.chan h.next] 218)).get (h.next+1)=some (.cells [.chan h.next] 218):=Ae _ _
   have gc:((h.new (.chan g.Z.toNat [])).new (.cells [.chan h.next] 218)).get h.next=some (.chan g.Z.toNat []):=by rw[Bm _ (Nat.lt_succ_self _)];exact Ae _ _
   have n1:((h.new (.chan g.Z.toNat [])).new (.cells [.chan h.next] 218)).next=h.next+2:=rfl
   generalize (h.new (.chan g.Z.toNat [])).new (.cells [.chan h.next] 218)=h1 at e1 hb1 gq gc n1 ⊢
   have gp:h1.get p=some (.cells (gL g++[sl]) 152):=e1.at P.hb P.Ft
   have row1:B0 h1 sl ql 153 1 i ((List.range i).map fun d=>.ptr (q d) 0):=P.row.frame fun hl=>e1.get _ (P.hb _ _ (P.row.block hl)) id
   have lp:=P.hb _ _ P.Ft
   rw[B2 gp rfl,show (gL g++[sl])[6]? = some sl from rfl,I8]
   refine Q5 (z:=[.Dx]) row1 hb1 rfl rfl rfl (by omega) (by omega) ?_
   intro h2 row2 n2 c2
   have n0:=P.ext.next
   have nql:∀ x o,h1.get x=some o->(∀ l e sz,o ≠ .vec l e sz)->¬ (0<i/\x=ql):=by
    rintro x o hx hno ⟨hl,rfl⟩
    rw[row1.block hl]at hx;cases hx;exact hno _ _ _ rfl
   have gp2:h2.get p=some (.cells (gL g++[sl]) 152):=c2.at hb1 gp (nql _ _ gp (by intros;simp))
   refine Ok.st (gL g++[EV.slice (h1.next+1) 0 (i+1) (i+1) true]) gp2 rfl rfl rfl ?_
   simp only[Ah6,I,Ad]
   rw[C6 (by omega) (by omega)]
   have hE:Ext h h2->Ext h0 h2:=fun x=>P.ext.trans x
   have x2:Ext h0 h2:=by
    refine(P.ext.trans e1).then c2 fun j hj hlt=>?_
    have:=(P.new.2.1 hj.1);omega
   have x3:Ext h0 (h2.put p (.cells (gL g++[EV.slice (h1.next+1) 0 (i+1) (i+1) true]) 152)):=x2.A8 (.inr P.new.1) (by have:=c2.next;omega) _
   have hb2:=c2.hb hb1
   have hb3:HB (h2.put p (.cells (gL g++[EV.slice (h1.next+1) 0 (i+1) (i+1) true]) 152)):=hb2.put (by have:=c2.next;omega) _
   have old:∀ x o,h.get x=some o->(∀ l e sz,o ≠ .vec l e sz)->x ≠ p->(h2.put p (.cells (gL g++[EV.slice (h1.next+1) 0 (i+1) (i+1) true]) 152)).get x=some o:=by
    intro x o hx hno hxp
    rw[Ar _ (Ne.symm hxp)]
    have hx1:=e1.at P.hb hx
    exact c2.at hb1 hx1 (nql _ _ hx1 hno)
   have hsl:h.next<h1.next:=by omega
   have P':As3 h0 (h2.put p (.cells (gL g++[EV.slice (h1.next+1) 0 (i+1) (i+1) true]) 152)) p (h1.next+1) (i+1) (fun d=>if d=i then h.next+1 else q d) (fun d=>if d=i then h.next else c d) g (.slice (h1.next+1) 0 (i+1) (i+1) true):=by
    refine⟨Aj _ _ _,?_,?_,?_,?_,⟨P.new.1,fun _=>by omega,?_⟩,x3,hb3⟩
    ·have:(List.range (i+1)).map (fun d=>EV.ptr (if d=i then h.next+1 else q d) 0)=((List.range i).map fun d=>EV.ptr (q d) 0)++EV.cells (.ptr (h.next+1) 0):=by
      rw[List.range_succ,List.map_append]
      congr 1
      ·refine List.map_congr_left fun d hd=>?_
       rw[if_neg (by have:=List.mem_range.1 hd;omega)]
      ·simp[EV.cells]
     rw[this]
     refine row2.frame fun _=>Ar _ ?_
     have:=row2.block (by omega)
     exact Bh gp2 this (by simp)
    ·intro d hd
     by_cases hdi:d=i
     ·subst hdi
      simp only[if_true]
      rw[Ar _ (by omega)]
      exact c2.at hb1 gq (nql _ _ gq (by intros;simp))
     ·simp only[hdi,if_false]
      have:=P.que d (by omega)
      exact old _ _ this (by intros;simp) (Bh this P.Ft (by simp))
    ·intro d hd
     by_cases hdi:d=i
     ·subst hdi
      simp only[if_true]
      rw[Ar _ (by omega)]
      exact c2.at hb1 gc (nql _ _ gc (by intros;simp))
     ·simp only[hdi,if_false]
      have:=P.chan d (by omega)
      exact old _ _ this (by intros;simp) (Bh this P.Ft (by simp))
    ·intro d e hd he hde
     have lc:=fun d (hd:d<i)=>P.hb _ _ (P.chan d hd)
     by_cases hdi:d=i <;> by_cases hei:e=i
     ·omega
     ·simp only[hdi,hei,if_true,if_false]at hde;have:=lc e (by omega);omega
     ·simp only[hdi,hei,if_true,if_false]at hde;have:=lc d (by omega);omega
     ·simp only[hdi,hei,if_false]at hde;exact P.inj d e (by omega) (by omega) hde
    ·intro d hd
     by_cases hdi:d=i
     ·subst hdi;simp only[if_true];omega
     ·simp only[hdi,if_false];exact P.new.2.2 d (by omega)
   exact ih (i+1) _ _ _ _ _ (by omega) (by omega) P'
  ·have:i=g.D.toNat:=by omega
   subst this
   simp only[hlt,decide_false,Ab,Abb]
   exact .ret ⟨rfl,P.ext,P.hb,ql,q,c,sl,P⟩
theorem Apj {g:Gm}(hr:rtB g=true)(hK:1000<K){h:Aa}(hb:HB h):Ok (X5 K (gV g) h) fun v h'=>∃ p ql q c,v=.tuple [.ptr p 0,I 0]/\Ext h h'/\HB h'/\Dj h' p ql g.D.toNat q c g (fun _=>[])/\h.next<=p/\h.next<=ql/\∀ d,d<g.D.toNat->h.next<=q d/\h.next<=c d:=by
 have s:=Adr hr
 have:=s.d0;have:=s.d1
 simp only[X5,gV,Ab]
 have hg:(h.new (.cells (gL g) 23)).get h.next=some (.cells (gL g) 23):=Ae _ _
 have hn:h.next<(h.new (.cells (gL g) 23)).next:=Nat.lt_succ_self _
 have hx:Ext h (h.new (.cells (gL g) 23)):=A4.new _ _
 generalize h.new (.cells (gL g) 23)=h1 at hg hn hx ⊢
 simp only[F4 hg rfl,Av (show (gL g).length=6 from rfl),Ab]
 refine(Wv g h1).Al ?_
 rintro _ h2 ⟨rfl,x2⟩
 rw[hr]
 have hg2:h2.get h.next=some (.cells (gL g) 23):=by rw[x2.get _ hn id];exact hg
 have hn2:h.next<h2.next:=Nat.lt_of_lt_of_le hn x2.next
 simp only[Ab,Ah4,F4 hg2 rfl,Av (show (gL g).length=6 from rfl)]
 rw[Cu (l:=gL g++[.Ag]) rfl]
 simp only[Ab]
 have hb2:=(x2.hb (hx.hb hb))
 have hg3:(h2.new (.cells (gL g++[.Ag]) 152)).get h.next=some (.cells (gL g) 23):=by rw[Bm _ hn2];exact hg2
 have hp3:(h2.new (.cells (gL g++[.Ag]) 152)).get h2.next=some (.cells (gL g++[.Ag]) 152):=Ae _ _
 have x3:Ext h2 (h2.new (.cells (gL g++[.Ag]) 152)):=A4.new _ _
 have hb3:HB (h2.new (.cells (gL g++[.Ag]) 152)):=hb2.new _
 have n3:h2.next<(h2.new (.cells (gL g++[.Ag]) 152)).next:=Nat.lt_succ_self _
 generalize h2.new (.cells (gL g++[.Ag]) 152)=h3 at hg3 hp3 x3 hb3 n3 ⊢
 simp only[B2 hg3 rfl,gL,Ab,I]
 refine(Amc (K:=K) (p:=h2.next) s h2 hn2 hg2 K 0 0 (fun _=>0) (fun _=>0) .Ag h3 (by omega) (by omega) ⟨hp3,.nil _ _ _ _,fun d hd=>absurd hd (Nat.not_lt_zero _),fun d hd=>absurd hd (Nat.not_lt_zero _),fun d e hd=>absurd hd (Nat.not_lt_zero _),⟨Nat.le_refl _,fun x=>absurd x (Nat.lt_irrefl _),fun d hd=>absurd hd (Nat.not_lt_zero _)⟩,x3,hb3⟩).mono ?_
 rintro v h' ⟨rfl,x4,hb4,ql,q,c,sl,P⟩
 refine⟨h2.next,ql,q,c,rfl,hx.trans (x2.trans x4),hb4,?_⟩
 have hpos:0<g.D.toNat:=by omega
 have hsl:=P.row.slice hpos
 subst hsl
 have t:=hx.next
 have t2:=x2.next
 exact⟨⟨hpos,P.Ft,P.row.block hpos,P.que,P.chan,P.inj⟩,by omega,by have:=P.new.2.1 hpos;omega,fun d hd=>by have:=P.new.2.2 d hd;omega⟩
theorem Ara {g:Gm}(hr:rtB g=false)(h:Aa):Ok (X5 K (gV g) h) fun v h'=>v=.tuple [.Dx,I 20]/\Ext h h':=by
 simp only[X5,gV,Ab]
 have hg:(h.new (.cells (gL g) 23)).get h.next=some (.cells (gL g) 23):=Ae _ _
 have hx:Ext h (h.new (.cells (gL g) 23)):=A4.new _ _
 generalize h.new (.cells (gL g) 23)=h1 at hg hx ⊢
 simp only[F4 hg rfl,Av (show (gL g).length=6 from rfl),Ab]
 refine(Wv g h1).Al ?_
 rintro _ h2 ⟨rfl,x2⟩
 rw[hr]
 simp only[Ab]
 exact .ret ⟨rfl,hx.trans x2⟩
end Go.Ev

namespace Go.Ev
open Go.Proofs
set_option maxRecDepth 10000
variable {K:Nat}
theorem Ake(n a:Int)(h:Aa):Pb K (I n) (I a) h=some (.bool (wi n 1 a),h):=by
 simp only[Pb,I,Ad,Ab]
 by_cases h1:1<=n
 ·simp only[h1,decide_true,Ab,Ad,Pu,wi,Bool.true_and]
 ·simp only[h1,decide_false,Ab,Ad,Pu,wi,Bool.false_and]
def O2(size:Int):Cn:=.cells [.Ag,I size,I 0,I 0,.bool false] 240
theorem Aob {size:Int}(h1:1<=size)(h2:size<=64)(h:Aa):Gu K (I size) h=some (.tuple [.ptr h.next 0,I 0],h.new (O2 size)):=by
 have a:¬ size<1:=by omega
 have b:¬ 64<size:=by omega
 simp only[Gu,I,Ad,Ab,a,b,decide_false,J9,Oq]
 rw[Cu (l:=[.Ag,I size,I 0,I 0,.bool false]) rfl]
 simp only[Ab];rfl
structure Zn where
 l:List (List EV)
 safe:Nat
 st:Nat
 fin:Bool
def Zn.empty:Zn:=⟨[],0,0,false⟩
structure Fk(h:Aa)(z q:Nat)(size:Int)(Z:Zn):Prop where
 A2:∃ s,h.get z=some (.cells [s,I size,I Z.safe,I Z.st,.bool Z.fin] 240)/\B0 h s q 103 64 Z.l.length Z.l.flatten
 wf:∀ x ∈ Z.l,x.length=64
structure Iz(h:Aa)(V zl n:Nat)(z q:Nat->Nat)(size op cnt:Int)(down:Bool)(Zs:Nat->Zn):Prop where
 pos:0<n
 dev:h.get V=some (.cells [.slice zl 0 n n true,I size,I op,I cnt,.bool down] 183)
 row:h.get zl=some (.vec ((List.range n).map fun i=>.ptr (z i) 0) 180 1)
 A2:∀ i,i<n->Fk h (z i) (q i) size (Zs i)
 Apd:∀ i j,i<n->j<n->z i=z j->i=j
 Aqs:∀ i j,i<n->j<n->(Zs i).l ≠ []->(Zs j).l ≠ []->q i=q j->i=j
structure Avj(h0 h:Aa)(V zl i:Nat)(z:Nat->Nat)(size op:Int)(s:EV):Prop where
 dev:h.get V=some (.cells [s,I size,I op,I 0,.bool false] 183)
 row:B0 h s zl 180 1 i ((List.range i).map fun d=>.ptr (z d) 0)
 A2:∀ d,d<i->h.get (z d)=some (O2 size)
 Apd:∀ d e,d<i->e<i->z d=z e->d=e
 new:h0.next<=V/\(0<i->h0.next<=zl)/\∀ d,d<i->h0.next<=z d
 ext:Ext h0 h
 hb:HB h
theorem Amh {size op:Int}{n:Nat}(hn:n<=512)(s0:1<=size)(s1:size<=64)(h0:Aa){V:Nat}:∀ (m i:Nat) (zl:Nat) (z:Nat->Nat) (sl:EV) (h:Aa),n-i<m->i<=n->Avj h0 h V zl i z size op sl ->
 Ok (Ld K m (I size) (.ptr V 0) (I n) (I i) h) fun v h'=>v=.tuple [.ptr V 0,I 0]/\∃ zl z sl,Avj h0 h' V zl n z size op sl:=by
 intro m
 induction m with
 | zero=>intro i _ _ _ _ hm;omega
 | succ m ih=>
  intro i zl z sl h hm hi P
  simp only[Ld,I,Ad,Ab]
  by_cases hlt:(i:Int)<n
  ·simp only[hlt,decide_true,Ab,Ahm]
   have hq:=Aob (K:=K) s0 s1 h
   simp only[I]at hq
   simp only[hq,Ab,Ad,not_true_eq_false,decide_false,Aih]
   have e1:Ext h (h.new (O2 size)):=A4.new _ _
   have hb1:HB (h.new (O2 size)):=P.hb.new _
   have gz:(h.new (O2 size)).get h.next=some (O2 size):=Ae _ _
   have n1:(h.new (O2 size)).next=h.next+1:=rfl
   generalize h.new (O2 size)=h1 at e1 hb1 gz n1 ⊢
   have gp:h1.get V=some (.cells [sl,I size,I op,I 0,.bool false] 183):=e1.at P.hb P.dev
   have row1:B0 h1 sl zl 180 1 i ((List.range i).map fun d=>.ptr (z d) 0):=P.row.frame fun hl=>e1.get _ (P.hb _ _ (P.row.block hl)) id
   have lp:=P.hb _ _ P.dev
   rw[B2 gp rfl]
   simp only[Ab]
   refine Q5 (z:=[.Dx]) row1 hb1 rfl rfl rfl (by omega) (by omega) ?_
   intro h2 row2 n2 c2
   have n0:=P.ext.next
   have nql:∀ x o,h1.get x=some o->(∀ l e sz,o ≠ .vec l e sz)->¬ (0<i/\x=zl):=by
    rintro x o hx hno ⟨hl,rfl⟩
    rw[row1.block hl]at hx;cases hx;exact hno _ _ _ rfl
   have gp2:=c2.at hb1 gp (nql _ _ gp (by intros;simp))
   refine Ok.st1 gp2 rfl rfl (by show 0<5;decide) ?_
   simp only[Ahq,I,Ad,List.set]
   rw[C6 (by omega) (by omega)]
   have x2:Ext h0 h2:=by
    refine(P.ext.trans e1).then c2 fun j hj hlt=>?_
    have:=(P.new.2.1 hj.1);omega
   have hb2:=c2.hb hb1
   have lp2:V<h2.next:=by have:=c2.next;omega
   have x3:=x2.A8 (.inr P.new.1) lp2 (.cells [EV.slice (h1.next+1) 0 (i+1) (i+1) true,I size,I op,I 0,.bool false] 183)
   have hb3:=hb2.put lp2 (.cells [EV.slice (h1.next+1) 0 (i+1) (i+1) true,I size,I op,I 0,.bool false] 183)
   have old:∀ x o,h1.get x=some o->(∀ l e sz,o ≠ .vec l e sz)->x ≠ V->(h2.put V (.cells [EV.slice (h1.next+1) 0 (i+1) (i+1) true,I size,I op,I 0,.bool false] 183)).get x=some o:=by
    intro x o hx1 hno hxp
    rw[Ar _ (Ne.symm hxp)]
    exact c2.at hb1 hx1 (nql _ _ hx1 hno)
   have P':Avj h0 (h2.put V (.cells [EV.slice (h1.next+1) 0 (i+1) (i+1) true,I size,I op,I 0,.bool false] 183)) V (h1.next+1) (i+1) (fun d=>if d=i then h.next else z d) size op (.slice (h1.next+1) 0 (i+1) (i+1) true):=by
    refine⟨Aj _ _ _,?_,?_,?_,⟨P.new.1,fun _=>by omega,?_⟩,x3,hb3⟩
    ·have:(List.range (i+1)).map (fun d=>EV.ptr (if d=i then h.next else z d) 0)=((List.range i).map fun d=>EV.ptr (z d) 0)++EV.cells (.ptr h.next 0):=by
      rw[List.range_succ,List.map_append]
      congr 1
      ·refine List.map_congr_left fun d hd=>?_
       rw[if_neg (by have:=List.mem_range.1 hd;omega)]
      ·simp[EV.cells]
     rw[this]
     refine row2.frame fun _=>Ar _ ?_
     have:=row2.block (by omega)
     exact Bh gp2 this (by simp)
    ·intro d hd
     by_cases hdi:d=i
     ·subst hdi
      simp only[if_true]
      exact old _ _ gz (by intros;simp[O2]) (Bh gz gp (by simp[O2]))
     ·simp only[hdi,if_false]
      have:=e1.at P.hb (P.A2 d (by omega))
      exact old _ _ this (by intros;simp[O2]) (Bh this gp (by simp[O2]))
    ·intro d e hd he hde
     have lc:=fun d (hd:d<i)=>P.hb _ _ (P.A2 d hd)
     by_cases hdi:d=i <;> by_cases hei:e=i
     ·omega
     ·simp only[hdi,hei,if_true,if_false]at hde;have:=lc e (by omega);omega
     ·simp only[hdi,hei,if_true,if_false]at hde;have:=lc d (by omega);omega
     ·simp only[hdi,hei,if_false]at hde;exact P.Apd d e (by omega) (by omega) hde
    ·intro d hd
     by_cases hdi:d=i
     ·subst hdi;simp only[if_true];omega
     ·simp only[hdi,if_false];exact P.new.2.2 d (by omega)
   exact ih (i+1) _ _ _ _ (by omega) (by omega) P'
  ·have:i=n:=by omega
   subst this
   simp only[hlt,decide_false,Ab,Abs]
   exact .ret ⟨rfl,zl,z,sl,P⟩
def Ab4(zones size op:Int):Bool:=wi zones 1 512 && wi op 1 64 && wi size 1 64
theorem Apc {zones size op:Int}(hr:Ab4 zones size op=true)(hK:1000<K){h:Aa}(hb:HB h):Ok (Afn K (I zones) (I size) (I op) h) fun v h'=>∃ V zl z,v=.tuple [.ptr V 0,I 0]/\Ext h h'/\HB h'/\Iz h' V zl zones.toNat z (fun _=>0) size op 0 false (fun _=>Zn.empty)/\h.next<=V/\h.next<=zl/\∀ d,d<zones.toNat->h.next<=z d:=by
 simp only[Ab4,Bool.and_eq_true]at hr
 obtain⟨⟨r1,r2⟩,r3⟩:=hr
 obtain⟨a0,a1⟩:=Iy.1 r1
 obtain⟨c0,c1⟩:=Iy.1 r3
 have w:=fun n a=>Ake (K:=K) n a h
 simp only[I]at w
 simp only[Afn,I,w,r1,r2,Ab,Ad,Aav,Aid]
 rw[Cu (l:=[.Ag,I size,I op,I 0,.bool false]) rfl]
 simp only[Ab]
 have P:Avj h (h.new (.cells [.Ag,I size,I op,I 0,.bool false] 183)) h.next 0 0 (fun _=>0) size op .Ag:=
  ⟨Ae _ _,.nil _ _ _ _,fun d hd=>absurd hd (Nat.not_lt_zero _),fun d e hd=>absurd hd (Nat.not_lt_zero _),⟨Nat.le_refl _,fun x=>absurd x (Nat.lt_irrefl _),fun d hd=>absurd hd (Nat.not_lt_zero _)⟩,A4.new _ _,hb.new _⟩
 have:=Amh (K:=K) (n:=zones.toNat) (by omega) c0 c1 h K 0 0 (fun _=>0) .Ag _ (by omega) (by omega) P
 rw[Int.toNat_of_nonneg (by omega)]at this
 refine this.mono ?_
 rintro v h' ⟨rfl,zl,z,sl,P⟩
 have hpos:0<zones.toNat:=by omega
 have hsl:=P.row.slice hpos
 subst hsl
 exact⟨h.next,zl,z,rfl,P.ext,P.hb,⟨hpos,P.dev,P.row.block hpos,fun i hi=>⟨⟨_,P.A2 i hi,.nil _ _ _ _⟩,fun x hx=>by cases hx⟩,P.Apd,fun i j _ _ a=>absurd rfl a⟩,Nat.le_refl _,P.new.2.1 hpos,P.new.2.2⟩
structure V4(h:Aa)(D V M zl n:Nat)(z q:Nat->Nat)(size op cnt:Int)(down:Bool)(E4 happened:EV)(marks:List (EV × EV))(Zs:Nat->Zn):Prop where
 Ct:h.get D=some (.cells [.ptr V 0,E4,happened,.map M] 166)
 marks:h.get M=some (.map marks)
 dev:Iz h V zl n z q size op cnt down Zs
theorem Iz.ext {h h':Aa}{V zl n:Nat}{z q:Nat->Nat}{size op cnt:Int}{down:Bool}{Zs:Nat->Zn}(d:Iz h V zl n z q size op cnt down Zs)(g:∀ i o,h.get i=some o->h'.get i=some o):Iz h' V zl n z q size op cnt down Zs:=by
 refine⟨d.pos,g _ _ d.dev,g _ _ d.row,fun i hi=>?_,d.Apd,d.Aqs⟩
 obtain⟨s,a,b⟩:=(d.A2 i hi).A2
 exact⟨⟨s,g _ _ a,b.frame fun hl=>by rw[g _ _ (b.block hl),b.block hl]⟩,(d.A2 i hi).wf⟩
theorem Dj.ext {h h':Aa}{p ql n:Nat}{q c:Nat->Nat}{g:Gm}{ps:Nat->List Int}(d:Dj h p ql n q c g ps)(e:∀ i o,h.get i=some o->h'.get i=some o):Dj h' p ql n q c g ps:=
 ⟨d.pos,e _ _ d.Ft,e _ _ d.row,fun i hi=>e _ _ (d.que i hi),fun i hi=>e _ _ (d.chan i hi),d.inj⟩
theorem V4.ext {h h':Aa}{D V M zl n:Nat}{z q:Nat->Nat}{size op cnt:Int}{down:Bool}{E4 happened:EV}{marks:List (EV × EV)}{Zs:Nat->Zn}(d:V4 h D V M zl n z q size op cnt down E4 happened marks Zs)(e:∀ i o,h.get i=some o->h'.get i=some o):
 V4 h' D V M zl n z q size op cnt down E4 happened marks Zs:=⟨e _ _ d.Ct,e _ _ d.marks,d.dev.ext e⟩
theorem Aod {zones size op:Int}(hr:Ab4 zones size op=true)(hK:1000<K){h:Aa}(hb:HB h):Ok (Agh K (I zones) (I size) (I op) h) fun v h'=>∃ D V M zl z,v=.tuple [.ptr D 0,I 0]/\Ext h h'/\HB h'/\V4 h' D V M zl zones.toNat z (fun _=>0) size op 0 false .Ag .Ag [] (fun _=>Zn.empty)/\(h.next<=D/\h.next<=M)/\h.next<=V/\h.next<=zl/\∀ d,d<zones.toNat->h.next<=z d:=by
 simp only[Agh]
 refine(Apc (K:=K) hr hK hb).Al ?_
 rintro _ h1 ⟨V,zl,z,rfl,x1,hb1,d1,nw⟩
 simp only[Ab,Ad,I,not_true_eq_false,decide_false,Ah2]
 rw[show Agg h1=some (.map h1.next,h1.new (.map [])) from rfl,Bf,Cu (l:=[.ptr V 0,.Ag,.Ag,.map h1.next]) rfl]
 simp only[Ab]
 have x2:Ext h1 ((h1.new (.map [])).new (.cells [.ptr V 0,.Ag,.Ag,.map h1.next] 166)):=(A4.new _ _).Hy _
 refine .ret ⟨(h1.new (.map [])).next,V,h1.next,zl,z,rfl,x1.trans x2,(hb1.new _).new _,⟨Ae _ _,?_,d1.ext fun i o g=>x2.at hb1 g⟩,⟨by have:=x1.next;show h.next<=h1.next+1;omega,x1.next⟩,nw⟩
 rw[Bm _ (Nat.lt_succ_self _)];exact Ae _ _
end Go.Ev
