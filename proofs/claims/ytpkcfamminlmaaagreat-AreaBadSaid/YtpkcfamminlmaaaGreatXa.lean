import Derived.Test.YtpkcfamminlmaaaGreatDa
import Derived.Test.YtpkcfamminlmaaaGreatWa
set_option linter.unusedVariables false
set_option linter.unusedSimpArgs false
set_option linter.unusedSectionVars false
namespace Go.Ev
open Go.Proofs
set_option maxRecDepth 10000
structure Gm where
 D:Int
 Z:Int
 S:Int
 B:Int
 P:Int
 O:Int
def gL(g:Gm):List EV:=[I g.D,I g.Z,I g.S,I g.B,I g.P,I g.O]
def gV(g:Gm):EV:=.agg (gL g)
def Gm.parts(g:Gm):Int:=1+(g.B+1) / 2
def Gm.Ad0(g:Gm):Int:=g.D*g.P+4
def Gm.least(g:Gm):Int:=min ((g.D-1)*(g.Z-g.P-2)-g.Ad0+1) (g.D*(g.Z-g.P-2)-2*g.Ad0+1)
def Gm.segments(g:Gm):Int:=g.least / 2-1-g.D*g.P
def wi(n a b:Int):Bool:=decide (a<=n) && decide (n<=b)
theorem Tf {n a b:Int}:wi n a b=true ↔ a<=n/\n<=b:=by simp[wi]
def smB(g:Gm):Bool:=wi g.D 3 8 && wi g.Z 1 64 && wi g.S 4 64 && wi g.B 1 256 && wi g.P 0 4 && wi g.O 4 64
def rtB(g:Gm):Bool:=smB g && (decide (g.parts<=g.S) && decide (2*g.B<=g.S*g.segments))
structure Sm(g:Gm):Prop where
 d0:3<=g.D
 d1:g.D<=8
 z0:1<=g.Z
 z1:g.Z<=64
 s0:4<=g.S
 s1:g.S<=64
 b0:1<=g.B
 b1:g.B<=256
 p0:0<=g.P
 p1:g.P<=4
 o0:4<=g.O
 o1:g.O<=64
theorem Oy {g:Gm}(h:smB g=true):Sm g:=by
 simp only[smB,Bool.and_eq_true,Tf]at h
 exact⟨h.1.1.1.1.1.1,h.1.1.1.1.1.2,h.1.1.1.1.2.1,h.1.1.1.1.2.2,h.1.1.1.2.1,h.1.1.1.2.2,h.1.1.2.1,h.1.1.2.2,h.1.2.1,h.1.2.2,h.2.1,h.2.2⟩
theorem Qs {g:Gm}(h:rtB g=true):Sm g:=Oy (by unfold rtB at h;exact((Bool.and_eq_true _ _).mp h).1)
theorem S7 {a b A B:Int}(h0:0<=a)(h1:a<=A)(h2:0<=b)(h3:b<=B):0<=a*b/\a*b<=A*B:=
 ⟨Int.mul_nonneg h0 h2,Int.mul_le_mul h1 h3 h2 (Int.le_trans h0 h1)⟩
theorem Ahm {a b A B:Int}(h0:0<=a)(h1:a<=A)(h2 : -B<=b)(h3:b<=B)(hB:0<=B): -(A*B)<=a*b/\a*b<=A*B:=by
 have e1:a*b<=a*B:=Int.mul_le_mul_of_nonneg_left h3 h0
 have e2:a*B<=A*B:=Int.mul_le_mul_of_nonneg_right h1 hB
 have e3:a*(-B)<=a*b:=Int.mul_le_mul_of_nonneg_left h2 h0
 rw[Int.mul_neg]at e3
 omega
theorem Ba4 {T:D7}{t:Nat}{a:Int}{k:EV->R}:Oc (bin T .shr t) (.int .i64 a) (.int .u64 1) k=k (.int .i64 (a / 2)):=by
 cases a with
 | ofNat a=>
  show k (.int .i64 (.ofNat (Nat.shiftRight a 1)))=_
  rw[show Nat.shiftRight a 1=a / 2 from Nat.shiftRight_succ a 0];rfl
 | negSucc a=>
  show k (.int .i64 ((Int.negSucc a).fdiv (.ofNat 2)))=_
  rw[Int.fdiv_eq_ediv_of_nonneg _ (by decide)];rfl
theorem A4o(a b:Int):ltB a b=decide (a<b):=by rw[<-At0,Aii]
theorem min2 {T:D7}{ts:Array TypeId}{a b:Int}{h:Aa}:builtin T .min ts [.int .i64 a,.int .i64 b] h=some (.int .i64 (min a b),h):=by
 simp only[builtin,Uk,Av,A4o]
 rw[A4j]
 by_cases h1:b<a
 ·rw[if_pos h1,Int.min_eq_right (by omega)]
 ·rw[if_neg h1,Int.min_eq_left (by omega)]
section
variable {K:Nat}
theorem Vt(n a b:Int)(h:Aa):Hd K (I n) (I a) (I b) h=some (.bool (wi n a b),h):=by
 simp only[Hd,Vy,I,Ah,A6s]
 by_cases h1:a<=n
 ·simp only[h1,decide_true,Ak,Alf,wi,Bool.true_and]
 ·simp only[h1,decide_false,Av,Alf,wi,Bool.false_and]
theorem Anl(g:Gm)(h:Aa):Ow K (gV g) h=some (.bool (smB g),h.new (.cells (gL g) 23)):=by
 simp only[Ow,gV,Ab]
 have hg:(h.new (.cells (gL g) 23)).get h.next=some (.cells (gL g) 23):=Ae _ _
 generalize h.new (.cells (gL g) 23)=h1 at hg ⊢
 have w:=fun n a b=>Vt (K:=K) n a b h1
 simp only[I]at w
 simp only[Ab,Cl hg rfl,gL,I,w,Ah]
 unfold smB
 cases wi g.D 3 8 with
 | false=>simp only[Ab,Ah,Ef,Eb,D9,Eh,Ec,Bool.false_and]
 | true=>
 simp only[Ab,Cl hg rfl,gL,I,w,Ah,Ef]
 cases wi g.Z 1 64 with
 | false=>simp only[Ab,Ah,Ef,Eb,D9,Eh,Ec,Bool.false_and,Bool.and_false]
 | true=>
 simp only[Ab,Cl hg rfl,gL,I,w,Ah,Eb]
 cases wi g.S 4 64 with
 | false=>simp only[Ab,Ah,Ef,Eb,D9,Eh,Ec,Bool.false_and,Bool.and_false]
 | true=>
 simp only[Ab,Cl hg rfl,gL,I,w,Ah,D9]
 cases wi g.B 1 256 with
 | false=>simp only[Ab,Ah,Ef,Eb,D9,Eh,Ec,Bool.false_and,Bool.and_false]
 | true=>
 simp only[Ab,Cl hg rfl,gL,I,w,Ah,Eh]
 cases wi g.P 0 4 with
 | false=>simp only[Ab,Ah,Ef,Eb,D9,Eh,Ec,Bool.false_and,Bool.and_false]
 | true=>
 simp only[Ab,Cl hg rfl,gL,I,w,Ah,Ec,Bool.true_and]
theorem Ae6 {g:Gm}(s:Sm g)(h:Aa):I6 K (gV g) h=some (I g.parts,h.new (.cells (gL g) 23)):=by
 have:=s.b0;have:=s.b1
 simp only[I6,gV,Ab]
 have hg:(h.new (.cells (gL g) 23)).get h.next=some (.cells (gL g) 23):=Ae _ _
 generalize h.new (.cells (gL g) 23)=h1 at hg ⊢
 simp only[Ab,Cl hg rfl,gL,I,Ah]
 rw[Cx (n:=g.B+2) (by omega) (by omega),Cx (n:=g.B+2-1) (by omega) (by omega),A5k (by omega) (by omega) (by omega)]
 simp only[Ah]
 rw[Cx (by omega) (by omega)]
 rw[show 1+(g.B+2-1) / 2=g.parts by unfold Gm.parts;rw[show g.B+2-1=g.B+1 by omega]]
theorem Aks {g:Gm}(s:Sm g)(h:Aa):Md K (gV g) h=some (I g.Ad0,h.new (.cells (gL g) 23)):=by
 have:=s.d0;have:=s.d1;have:=s.p0;have:=s.p1
 obtain⟨m0,m1⟩:=S7 (a:=g.D) (b:=g.P) (A:=8) (B:=4) (by omega) (by omega) (by omega) (by omega)
 simp only[Md,gV,Ab]
 have hg:(h.new (.cells (gL g) 23)).get h.next=some (.cells (gL g) 23):=Ae _ _
 generalize h.new (.cells (gL g) 23)=h1 at hg ⊢
 simp only[Ab,Cl hg rfl,gL,I,Ah]
 rw[Cx (n:=g.D*g.P) (by omega) (by omega),Cx (by omega) (by omega)];rfl
theorem R5 {g:Gm}(s:Sm g)(h:Aa):H5 K (gV g) h=some (I (g.D*g.Z),h.new (.cells (gL g) 23)):=by
 have:=s.d0;have:=s.d1;have:=s.z0;have:=s.z1
 obtain⟨m0,m1⟩:=S7 (a:=g.D) (b:=g.Z) (A:=8) (B:=64) (by omega) (by omega) (by omega) (by omega)
 simp only[H5,gV,Ab]
 have hg:(h.new (.cells (gL g) 23)).get h.next=some (.cells (gL g) 23):=Ae _ _
 generalize h.new (.cells (gL g) 23)=h1 at hg ⊢
 simp only[Ab,Cl hg rfl,gL,I,Ah]
 rw[Cx (n:=g.D*g.Z) (by omega) (by omega)]
theorem Sm.A2n {g:Gm}(s:Sm g):(0<=g.D*g.P/\g.D*g.P<=32)/\(-640<=(g.D-1)*(g.Z-g.P-2)/\(g.D-1)*(g.Z-g.P-2)<=640)/\(-640<=g.D*(g.Z-g.P-2)/\g.D*(g.Z-g.P-2)<=640):=by
 have:=s.d0;have:=s.d1;have:=s.p0;have:=s.p1;have:=s.z0;have:=s.z1
 obtain⟨a0,a1⟩:=S7 (a:=g.D) (b:=g.P) (A:=8) (B:=4) (by omega) (by omega) (by omega) (by omega)
 obtain⟨b0,b1⟩:=Ahm (a:=g.D-1) (b:=g.Z-g.P-2) (A:=10) (B:=64) (by omega) (by omega) (by omega) (by omega) (by omega)
 obtain⟨c0,c1⟩:=Ahm (a:=g.D) (b:=g.Z-g.P-2) (A:=10) (B:=64) (by omega) (by omega) (by omega) (by omega) (by omega)
 omega
theorem Ai3 {g:Gm}(s:Sm g)(h:Aa):Ok (K2 K (gV g) h) fun v h'=>v=I g.segments/\Ext h h':=by
 obtain⟨⟨a0,a1⟩,⟨b0,b1⟩,c0,c1⟩:=s.A2n
 have:=s.d0;have:=s.d1;have:=s.p0;have:=s.p1;have:=s.z0;have:=s.z1
 simp only[K2,gV,Ab]
 have hg:(h.new (.cells (gL g) 23)).get h.next=some (.cells (gL g) 23):=Ae _ _
 have hn:h.next<(h.new (.cells (gL g) 23)).next:=Nat.lt_succ_self _
 have hx:Ext h (h.new (.cells (gL g) 23)):=A1.new _ _
 generalize h.new (.cells (gL g) 23)=h1 at hg hn hx ⊢
 simp only[Ab,Bh,As hn,Cl hg rfl,Gf hg rfl,Ax (show (gL g).length=6 from rfl),gL,I,Ah]
 rw[Cx (n:=g.Z-g.P) (by omega) (by omega),Cx (n:=g.Z-g.P-2) (by omega) (by omega)]
 refine Ok.Ct (by kernel_rfl) (by kernel_rfl) (P:=fun v h2=>v=I g.Ad0/\Ext h1.lift h2) ⟨_,_,Aks s _,rfl,A1.new _ _⟩ (fun _ _ p=>p.2) ?_
 rintro _ h2 h3 ⟨rfl,_⟩ _ x3
 have hg3:h3.get h.next=some (.cells (gL g) 23):=by rw[x3.get _ hn id];exact hg
 simp only[Ab,Cl hg3 rfl,gL,I,Ah]
 unfold Gm.Ad0
 rw[Cx (n:=g.D-1) (by omega) (by omega),Cx (n:=(g.D-1)*(g.Z-g.P-2)) (by omega) (by omega),Cx (n:=(g.D-1)*(g.Z-g.P-2)-(g.D*g.P+4)) (by omega) (by omega),Cx (n:=(g.D-1)*(g.Z-g.P-2)-(g.D*g.P+4)+1) (by omega) (by omega),
  Cx (n:=g.D*(g.Z-g.P-2)) (by omega) (by omega),Cx (n:=2*(g.D*g.P+4)) (by omega) (by omega),Cx (n:=g.D*(g.Z-g.P-2)-2*(g.D*g.P+4)) (by omega) (by omega),Cx (n:=g.D*(g.Z-g.P-2)-2*(g.D*g.P+4)+1) (by omega) (by omega),
  min2,A0,Ba4]
 simp only[Ah,Ab,Cl hg3 rfl,gL,I]
 have hl:g.least=min ((g.D-1)*(g.Z-g.P-2)-(g.D*g.P+4)+1) (g.D*(g.Z-g.P-2)-2*(g.D*g.P+4)+1):=rfl
 rw[<-hl]
 have hl0 : -10000<=g.least:=by omega
 have hl1:g.least<=10000:=by omega
 rw[Cx (n:=g.least / 2-1) (by omega) (by omega),Cx (n:=g.D*g.P) (by omega) (by omega),Cx (n:=g.least / 2-1-g.D*g.P) (by omega) (by omega)]
 exact .ret ⟨rfl,hx.trans x3⟩
end
end Go.Ev

namespace Go.Ev
open Go.Proofs
set_option maxRecDepth 10000
variable {K:Nat}
theorem A0v {g:Gm}(s:Sm g): -2000<=g.segments/\g.segments<=2000:=by
 obtain⟨⟨a0,a1⟩,⟨b0,b1⟩,c0,c1⟩:=s.A2n
 have hl:g.least=min ((g.D-1)*(g.Z-g.P-2)-(g.D*g.P+4)+1) (g.D*(g.Z-g.P-2)-2*(g.D*g.P+4)+1):=rfl
 have hs:g.segments=g.least / 2-1-g.D*g.P:=rfl
 omega
theorem Rt(g:Gm)(h:Aa):Ok (Hr K (gV g) h) fun v h'=>v=.bool (rtB g)/\Ext h h':=by
 simp only[Hr,gV,Ab]
 have hg:(h.new (.cells (gL g) 23)).get h.next=some (.cells (gL g) 23):=Ae _ _
 have hn:h.next<(h.new (.cells (gL g) 23)).next:=Nat.lt_succ_self _
 have hx:Ext h (h.new (.cells (gL g) 23)):=A1.new _ _
 generalize h.new (.cells (gL g) 23)=h1 at hg hn hx ⊢
 simp only[Ab,Bh,As hn,Cl hg rfl,Gf hg rfl,Ax (show (gL g).length=6 from rfl)]
 refine Ok.Ct (by kernel_rfl) (by kernel_rfl) (P:=fun v h2=>v=.bool (smB g)/\Ext h1.lift h2) ⟨_,_,Anl g _,rfl,A1.new _ _⟩ (fun _ _ p=>p.2) ?_
 rintro _ h2 h3 ⟨rfl,_⟩ _ x3
 have hg3:h3.get h.next=some (.cells (gL g) 23):=by rw[x3.get _ hn id];exact hg
 unfold rtB
 cases hs:smB g with
 | false=>simp only[Ab,Ah,K1,Ik,Bool.false_and];exact .ret ⟨rfl,hx.trans x3⟩
 | true=>
 have s:=Oy hs
 have:=s.b0;have:=s.b1
 simp only[Ab,Ah,Bh,As hn,Cl hg3 rfl,Gf hg3 rfl,Ax (show (gL g).length=6 from rfl),Bool.true_and]
 refine Ok.Ct (by kernel_rfl) (by kernel_rfl) (P:=fun v h4=>v=I g.parts/\Ext h3.lift h4) ⟨_,_,Ae6 s _,rfl,A1.new _ _⟩ (fun _ _ p=>p.2) ?_
 rintro _ h4 h5 ⟨rfl,_⟩ _ x5
 have x5':=x3.trans x5
 have hg5:h5.get h.next=some (.cells (gL g) 23):=by rw[x5'.get _ hn id];exact hg
 simp only[Ab,Ah,Bh,As hn,Cl hg5 rfl,gL,I,K1]
 by_cases hp:g.parts<=g.S
 ·simp only[hp,decide_true,Ab,Bh,As hn,Cl hg5 rfl,Gf hg5 rfl,Ax (show (gL g).length=6 from rfl),gL,I,Ah,Bool.true_and]
  refine Ok.Ct (by kernel_rfl) (by kernel_rfl) (Ai3 s _) (fun _ _ p=>p.2) ?_
  rintro _ h6 h7 ⟨rfl,_⟩ _ x7
  obtain⟨t0,t1⟩:=A0v s
  have:=s.s0;have:=s.s1
  obtain⟨m0,m1⟩:=Ahm (a:=g.S) (b:=g.segments) (A:=64) (B:=2000) (by omega) (by omega) (by omega) (by omega) (by omega)
  simp only[Ah,I,Ik,Ab]
  rw[Cx (n:=2*g.B) (by omega) (by omega),Cx (n:=g.S*g.segments) (by omega) (by omega)]
  exact .ret ⟨rfl,hx.trans (x5'.trans x7)⟩
 ·simp only[hp,decide_false,Ab,Ah,Ik,Bool.false_and]
  exact .ret ⟨rfl,hx.trans x5'⟩
theorem A4f {n:Int}(h0 : -100000<=n)(h1:n<=100000)(h:Aa):Jz K (I n) h=some (I (n / 2),h):=by
 simp only[Jz,I,Ah,Ab]
 by_cases hn:n<0
 ·simp only[hn,decide_true,Ab,Ah]
  rw[Cx (by omega) (by omega),A5k (by omega) (by omega) (by omega)]
  simp only[A1s]
  rw[Cx (by omega) (by omega),show 0-(1-n) / 2=n / 2 by omega]
 ·simp only[hn,decide_false,Ab,Qt]
  rw[A5k (by omega) (by omega) (by omega)]
theorem As0 {g:Gm}(s:Sm g){a:Nat}{h:Aa}(hg:h.get a=some (.cells (gL g) 37)):∀ (m:Nat) (i:Int),0<=i->(g.B-i).toNat<m->i<=g.B+1->i % 2=0 ->
 Cd K m (.ptr a 0) (I (1+i / 2)) (I i) h=some (I g.parts,h):=by
 have:=s.b0;have:=s.b1
 intro m
 induction m with
 | zero=>intro i _ hm;omega
 | succ m ih=>
  intro i hi hm hle hev
  simp only[Cd,Ab,Ah,Cl hg rfl,gL,I]
  by_cases hlt:i<g.B
  ·simp only[hlt,decide_true,Ab,Ah,Nx,Nw]
   rw[Cx (n:=1+i / 2+1) (by omega) (by omega),Cx (n:=i+2) (by omega) (by omega),show 1+i / 2+1=1+(i+2) / 2 by omega]
   exact ih (i+2) (by omega) (by omega) (by omega) (by omega)
  ·simp only[hlt,decide_false,Ab,Iy]
   unfold Gm.parts
   rw[show 1+i / 2=1+(g.B+1) / 2 by omega]
theorem Azs {g:Gm}(s:Sm g)(hK:1000<K)(h:Aa):H0 K (gV g) h=some (I g.parts,h.new (.cells (gL g) 37)):=by
 have:=s.b0;have:=s.b1
 simp only[H0,gV,Ab]
 exact As0 s (Ae _ _) K 0 (by omega) (by omega) (by omega) (by omega)
theorem Aqd {g:Gm}(s:Sm g)(h:Aa):Ok (Gl K (gV g) h) fun v h'=>v=I g.segments/\Ext h h':=by
 obtain⟨⟨a0,a1⟩,⟨b0,b1⟩,c0,c1⟩:=s.A2n
 have:=s.d0;have:=s.d1;have:=s.p0;have:=s.p1;have:=s.z0;have:=s.z1
 simp only[Gl,gV,Ab]
 have hg:(h.new (.cells (gL g) 37)).get h.next=some (.cells (gL g) 37):=Ae _ _
 have hn:h.next<(h.new (.cells (gL g) 37)).next:=Nat.lt_succ_self _
 have hx:Ext h (h.new (.cells (gL g) 37)):=A1.new _ _
 generalize h.new (.cells (gL g) 37)=h1 at hg hn hx ⊢
 have hl:g.least=min ((g.D-1)*(g.Z-g.P-2)-(g.D*g.P+4)+1) (g.D*(g.Z-g.P-2)-2*(g.D*g.P+4)+1):=rfl
 have fin:∀ n,n=g.least->Ok (E9 K (.ptr h.next 0) (I n) h1) fun v h'=>v=I g.segments/\Ext h h':=by
  rintro _ rfl
  simp only[E9,Ab]
  refine Ok.Ct (by kernel_rfl) (by kernel_rfl) (P:=fun v h2=>v=I (g.least / 2)/\Ext h1.lift h2) ⟨_,_,A4f (by omega) (by omega) _,rfl,A1.refl _⟩ (fun _ _ p=>p.2) ?_
  rintro _ h2 h3 ⟨rfl,_⟩ _ x3
  have hg3:h3.get h.next=some (.cells (gL g) 37):=by rw[x3.get _ hn id];exact hg
  simp only[Ab,Bh,As hn,Cl hg3 rfl,gL,I,Ah]
  rw[Cx (n:=g.least / 2-1) (by omega) (by omega),Cx (n:=g.D*g.P) (by omega) (by omega),Cx (n:=g.least / 2-1-g.D*g.P) (by omega) (by omega)]
  exact .ret ⟨rfl,hx.trans x3⟩
 simp only[Ab,Cl hg rfl,gL,I,Ah]
 rw[Cx (n:=g.Z-g.P) (by omega) (by omega),Cx (n:=g.Z-g.P-2) (by omega) (by omega),Cx (n:=g.D*g.P) (by omega) (by omega),Cx (n:=g.D*g.P+4) (by omega) (by omega),
  Cx (n:=g.D-1) (by omega) (by omega),Cx (n:=(g.D-1)*(g.Z-g.P-2)) (by omega) (by omega),Cx (n:=(g.D-1)*(g.Z-g.P-2)-(g.D*g.P+4)) (by omega) (by omega),Cx (n:=(g.D-1)*(g.Z-g.P-2)-(g.D*g.P+4)+1) (by omega) (by omega),
  Cx (n:=g.D*(g.Z-g.P-2)) (by omega) (by omega),Cx (n:=2*(g.D*g.P+4)) (by omega) (by omega),Cx (n:=g.D*(g.Z-g.P-2)-2*(g.D*g.P+4)) (by omega) (by omega),Cx (n:=g.D*(g.Z-g.P-2)-2*(g.D*g.P+4)+1) (by omega) (by omega)]
 by_cases hlt:g.D*(g.Z-g.P-2)-2*(g.D*g.P+4)+1<(g.D-1)*(g.Z-g.P-2)-(g.D*g.P+4)+1
 ·simp only[hlt,decide_true,Ab]
  exact fin _ (by omega)
 ·simp only[hlt,decide_false,Ab]
  exact fin _ (by omega)
theorem Ay2(g:Gm)(hK:1000<K)(h:Aa):Ok (Hv K (gV g) h) fun v h'=>v=.bool (rtB g)/\Ext h h':=by
 simp only[Hv,gV,Ab]
 have hg:(h.new (.cells (gL g) 37)).get h.next=some (.cells (gL g) 37):=Ae _ _
 have hn:h.next<(h.new (.cells (gL g) 37)).next:=Nat.lt_succ_self _
 have hx:Ext h (h.new (.cells (gL g) 37)):=A1.new _ _
 generalize h.new (.cells (gL g) 37)=h1 at hg hn hx ⊢
 have no:∀ b,b=false->Ok (some (.bool false,h1)) fun v h'=>v=.bool (b && (decide (g.parts<=g.S) && decide (2*g.B<=g.S*g.segments)))/\Ext h h':=by
  rintro _ rfl;exact .ret ⟨by rw[Bool.false_and],hx⟩
 unfold rtB
 have hsm:∀ {p:Prop} [Decidable p],¬ p->(smB g=true->p)->smB g=false:=fun hp hq=>by
  cases hb:smB g with
  | false=>rfl
  | true=>exact absurd (hq hb) hp
 simp only[Ab,Cl hg rfl,gL,I,Ah]
 by_cases c1:g.D<3
 ·simp only[c1,decide_true,Ab,Ah,F9,Ei,C6,Cs,Cc,B1,Bt,Bp,Bi,Be,A6]
  exact no _ (hsm (p:=¬ g.D<3) (by simpa using c1) fun hb=>by have:=(Oy hb).d0;omega)
 simp only[c1,decide_false,Ab,Ah,Cl hg rfl,gL,I,F9]
 by_cases c2:8<g.D
 ·simp only[c2,decide_true,Ab,Ah,Ei,C6,Cs,Cc,B1,Bt,Bp,Bi,Be,A6]
  exact no _ (hsm (p:=¬ 8<g.D) (by simpa using c2) fun hb=>by have:=(Oy hb).d1;omega)
 simp only[c2,decide_false,Ab,Ah,Cl hg rfl,gL,I,Ei]
 by_cases c3:g.Z<1
 ·simp only[c3,decide_true,Ab,Ah,C6,Cs,Cc,B1,Bt,Bp,Bi,Be,A6]
  exact no _ (hsm (p:=¬ g.Z<1) (by simpa using c3) fun hb=>by have:=(Oy hb).z0;omega)
 simp only[c3,decide_false,Ab,Ah,Cl hg rfl,gL,I,C6]
 by_cases c4:64<g.Z
 ·simp only[c4,decide_true,Ab,Ah,Cs,Cc,B1,Bt,Bp,Bi,Be,A6]
  exact no _ (hsm (p:=¬ 64<g.Z) (by simpa using c4) fun hb=>by have:=(Oy hb).z1;omega)
 simp only[c4,decide_false,Ab,Ah,Cl hg rfl,gL,I,Cs]
 by_cases c5:g.S<4
 ·simp only[c5,decide_true,Ab,Ah,Cc,B1,Bt,Bp,Bi,Be,A6]
  exact no _ (hsm (p:=¬ g.S<4) (by simpa using c5) fun hb=>by have:=(Oy hb).s0;omega)
 simp only[c5,decide_false,Ab,Ah,Cl hg rfl,gL,I,Cc]
 by_cases c6:64<g.S
 ·simp only[c6,decide_true,Ab,Ah,B1,Bt,Bp,Bi,Be,A6]
  exact no _ (hsm (p:=¬ 64<g.S) (by simpa using c6) fun hb=>by have:=(Oy hb).s1;omega)
 simp only[c6,decide_false,Ab,Ah,Cl hg rfl,gL,I,B1]
 by_cases c7:g.B<1
 ·simp only[c7,decide_true,Ab,Ah,Bt,Bp,Bi,Be,A6]
  exact no _ (hsm (p:=¬ g.B<1) (by simpa using c7) fun hb=>by have:=(Oy hb).b0;omega)
 simp only[c7,decide_false,Ab,Ah,Cl hg rfl,gL,I,Bt]
 by_cases c8:256<g.B
 ·simp only[c8,decide_true,Ab,Ah,Bp,Bi,Be,A6]
  exact no _ (hsm (p:=¬ 256<g.B) (by simpa using c8) fun hb=>by have:=(Oy hb).b1;omega)
 simp only[c8,decide_false,Ab,Ah,Cl hg rfl,gL,I,Bp]
 by_cases c9:g.P<0
 ·simp only[c9,decide_true,Ab,Ah,Bi,Be,A6]
  exact no _ (hsm (p:=¬ g.P<0) (by simpa using c9) fun hb=>by have:=(Oy hb).p0;omega)
 simp only[c9,decide_false,Ab,Ah,Cl hg rfl,gL,I,Bi]
 by_cases d1:4<g.P
 ·simp only[d1,decide_true,Ab,Ah,Be,A6]
  exact no _ (hsm (p:=¬ 4<g.P) (by simpa using d1) fun hb=>by have:=(Oy hb).p1;omega)
 simp only[d1,decide_false,Ab,Ah,Cl hg rfl,gL,I,Be]
 by_cases d2:g.O<4
 ·simp only[d2,decide_true,Ab,Ah,A6]
  exact no _ (hsm (p:=¬ g.O<4) (by simpa using d2) fun hb=>by have:=(Oy hb).o0;omega)
 simp only[d2,decide_false,Ab,Ah,Cl hg rfl,gL,I,A6]
 by_cases d3:64<g.O
 ·simp only[d3,decide_true,Ab]
  exact no _ (hsm (p:=¬ 64<g.O) (by simpa using d3) fun hb=>by have:=(Oy hb).o1;omega)
 have hs:smB g=true:=by
  simp only[smB,Bool.and_eq_true,Tf];omega
 have s:=Oy hs
 rw[hs]
 simp only[d3,decide_false,Ab,Ah,Nu,Bh,As hn,Gf hg rfl,Ax (show (gL g).length=6 from rfl),Bool.true_and]
 refine Ok.Ct (by kernel_rfl) (by kernel_rfl) (P:=fun v h4=>v=I g.parts/\Ext h1.lift h4) ⟨_,_,Azs s hK _,rfl,A1.new _ _⟩ (fun _ _ p=>p.2) ?_
 rintro _ h4 h5 ⟨rfl,_⟩ _ x5
 have hg5:h5.get h.next=some (.cells (gL g) 37):=by rw[x5.get _ hn id];exact hg
 simp only[Ab,Ah,Bh,As hn,Cl hg5 rfl,gL,I]
 by_cases hp:g.parts<=g.S
 ·simp only[hp,decide_true,Ab,Bh,As hn,Cl hg5 rfl,Gf hg5 rfl,Ax (show (gL g).length=6 from rfl),gL,I,Ah,Bool.true_and]
  refine Ok.Ct (by kernel_rfl) (by kernel_rfl) (Aqd s _) (fun _ _ p=>p.2) ?_
  rintro _ h6 h7 ⟨rfl,_⟩ _ x7
  obtain⟨t0,t1⟩:=A0v s
  have:=s.s0;have:=s.s1;have:=s.b0;have:=s.b1
  obtain⟨m0,m1⟩:=Ahm (a:=g.S) (b:=g.segments) (A:=64) (B:=2000) (by omega) (by omega) (by omega) (by omega) (by omega)
  simp only[Ah,I,Gp,Ab]
  rw[Cx (n:=2*g.B) (by omega) (by omega),Cx (n:=g.S*g.segments) (by omega) (by omega)]
  exact .ret ⟨rfl,hx.trans (x5.trans x7)⟩
 ·simp only[hp,decide_false,Ab,Ah,Gp,Bool.false_and]
  exact .ret ⟨rfl,hx.trans x5⟩
end Go.Ev

namespace Go.Ev
open Go.Proofs
set_option maxRecDepth 10000
variable {K:Nat}
theorem Aqz {n:Nat}(h1:1<=n)(h2:n<=4096)(h:Aa):Yp K (I n) h=some (.tuple [.ptr (h.next+1) 0,I 0],(h.new (.chan n [])).new (.cells [.chan h.next] 218)):=by
 simp only[Yp,I,Ah,Ab]
 have a:¬ (n:Int)<1:=by omega
 have b:¬ (4096:Int)<(n:Int):=by omega
 simp only[a,b,decide_false,Ab,Ah,Zr,Ahj]
 have hm:Adx (.int .i64 (n:Int)) h=some (.chan h.next,h.new (.chan n [])):=by
  show Ar (Nat.ble n 65536) _ none=_
  rw[Nat.ble_eq_true_of_le (by omega),Ak]
 rw[hm,A0,Ca (l:=[.chan h.next]) rfl]
 simp only[Ab];rfl
structure E6(h:Aa)(p ql n:Nat)(q c:Nat->Nat)(g:Gm)(ps:Nat->List Int):Prop where
 pos:0<n
 Fe:h.get p=some (.cells (gL g++[.slice ql 0 n n true]) 152)
 row:h.get ql=some (.vec ((List.range n).map fun d=>.ptr (q d) 0) 153 1)
 que:∀ d,d<n->h.get (q d)=some (.cells [.chan (c d)] 218)
 chan:∀ d,d<n->h.get (c d)=some (.chan g.Z.toNat ((ps d).map I))
 inj:∀ d e,d<n->e<n->c d=c e->d=e
structure Auo(h0 h:Aa)(p ql i:Nat)(q c:Nat->Nat)(g:Gm)(s:EV):Prop where
 Fe:h.get p=some (.cells (gL g++[s]) 152)
 row:Bz h s ql 153 1 i ((List.range i).map fun d=>.ptr (q d) 0)
 que:∀ d,d<i->h.get (q d)=some (.cells [.chan (c d)] 218)
 chan:∀ d,d<i->h.get (c d)=some (.chan g.Z.toNat [])
 inj:∀ d e,d<i->e<i->c d=c e->d=e
 new:h0.next<=p/\(0<i->h0.next<=ql)/\∀ d,d<i->h0.next<=q d/\h0.next<=c d
 ext:Ext h0 h
 hb:HB h
theorem Ano {g:Gm}(s:Sm g)(h0:Aa){b p:Nat}(hbp:b<h0.next)(hg:h0.get b=some (.cells (gL g) 23)):∀ (m i:Nat) (ql:Nat) (q c:Nat->Nat) (sl:EV) (h:Aa),g.D.toNat-i<m->i<=g.D.toNat->Auo h0 h p ql i q c g sl ->
 Ok (Kr K m (.ptr b 0) (.ptr p 0) (I g.D) (I i) h) fun v h'=>v=.tuple [.ptr p 0,I 0]/\Ext h0 h'/\HB h'/\∃ ql q c sl,Auo h0 h' p ql g.D.toNat q c g sl:=by
 have:=s.d0;have:=s.d1;have:=s.z0;have:=s.z1
 intro m
 induction m with
 | zero=>intro i _ _ _ _ _ hm;omega
 | succ m ih=>
  intro i ql q c sl h hm hi P
  simp only[Kr,I,Ah,Ab]
  by_cases hlt:(i:Int)<g.D
  ·have hgb:h.get b=some (.cells (gL g) 23):=by rw[P.ext.get _ hbp id];exact hg
   simp only[hlt,decide_true,Ab,Ajv,Cl hgb rfl,gL,I]
   have hq:=Aqz (K:=K) (n:=g.Z.toNat) (by omega) (by omega) h
   rw[Int.toNat_of_nonneg (by omega)]at hq
   simp only[I]at hq
   simp only[hq,Ab,Ah,not_true_eq_false,decide_false,Ajz]
   have e1:Ext h ((h.new (.chan g.Z.toNat [])).new (.cells [.chan h.next] 218)):=(A1.new _ _).trans (A1.new _ _)
   have hb1:HB ((h.new (.chan g.Z.toNat [])).new (.cells [.chan h.next] 218)):=(P.hb.new _).new _
   have gq:((h.new (.chan g.Z.toNat [])).new (.cells [.chan h.next] 218)).get (h.next+1)=some (.cells [.chan h.next] 218):=Ae _ _
   have gc:((h.new (.chan g.Z.toNat [])).new (.cells [.chan h.next] 218)).get h.next=some (.chan g.Z.toNat []):=by rw[Bj _ (Nat.lt_succ_self _)];exact Ae _ _
   have n1:((h.new (.chan g.Z.toNat [])).new (.cells [.chan h.next] 218)).next=h.next+2:=rfl
   generalize (h.new (.chan g.Z.toNat [])).new (.cells [.chan h.next] 218)=h1 at e1 hb1 gq gc n1 ⊢
   have gp:h1.get p=some (.cells (gL g++[sl]) 152):=e1.at P.hb P.Fe
   have row1:Bz h1 sl ql 153 1 i ((List.range i).map fun d=>.ptr (q d) 0):=P.row.frame fun hl=>e1.get _ (P.hb _ _ (P.row.block hl)) id
   have lp:=P.hb _ _ P.Fe
   rw[Cl gp rfl,show (gL g++[sl])[6]? = some sl from rfl,Ue]
   refine Ml (z:=[.Db]) row1 hb1 rfl rfl rfl (by omega) (by omega) ?_
   intro h2 row2 n2 c2
   have n0:=P.ext.next
   have nql:∀ x o,h1.get x=some o->(∀ l e sz,o ≠ .vec l e sz)->¬ (0<i/\x=ql):=by
    rintro x o hx hno ⟨hl,rfl⟩
    rw[row1.block hl]at hx;cases hx;exact hno _ _ _ rfl
   have gp2:h2.get p=some (.cells (gL g++[sl]) 152):=c2.at hb1 gp (nql _ _ gp (by intros;simp))
   refine Ok.st (gL g++[EV.slice (h1.next+1) 0 (i+1) (i+1) true]) gp2 rfl rfl rfl ?_
   simp only[Ajs,I,Ah]
   rw[Cx (by omega) (by omega)]
   have hE:Ext h h2->Ext h0 h2:=fun x=>P.ext.trans x
   have x2:Ext h0 h2:=by
    refine(P.ext.trans e1).then c2 fun j hj hlt=>?_
    have:=(P.new.2.1 hj.1);omega
   have x3:Ext h0 (h2.put p (.cells (gL g++[EV.slice (h1.next+1) 0 (i+1) (i+1) true]) 152)):=x2.Az (.inr P.new.1) (by have:=c2.next;omega) _
   have hb2:=c2.hb hb1
   have hb3:HB (h2.put p (.cells (gL g++[EV.slice (h1.next+1) 0 (i+1) (i+1) true]) 152)):=hb2.put (by have:=c2.next;omega) _
   have B2:∀ x o,h.get x=some o->(∀ l e sz,o ≠ .vec l e sz)->x ≠ p->(h2.put p (.cells (gL g++[EV.slice (h1.next+1) 0 (i+1) (i+1) true]) 152)).get x=some o:=by
    intro x o hx hno hxp
    rw[Al _ (Ne.symm hxp)]
    have hx1:=e1.at P.hb hx
    exact c2.at hb1 hx1 (nql _ _ hx1 hno)
   have hsl:h.next<h1.next:=by omega
   have P':Auo h0 (h2.put p (.cells (gL g++[EV.slice (h1.next+1) 0 (i+1) (i+1) true]) 152)) p (h1.next+1) (i+1) (fun d=>if d=i then h.next+1 else q d) (fun d=>if d=i then h.next else c d) g (.slice (h1.next+1) 0 (i+1) (i+1) true):=by
    refine⟨Ai _ _ _,?_,?_,?_,?_,⟨P.new.1,fun _=>by omega,?_⟩,x3,hb3⟩
    ·have:(List.range (i+1)).map (fun d=>EV.ptr (if d=i then h.next+1 else q d) 0)=((List.range i).map fun d=>EV.ptr (q d) 0)++EV.cells (.ptr (h.next+1) 0):=by
      rw[List.range_succ,List.map_append]
      congr 1
      ·refine List.map_congr_left fun d hd=>?_
       rw[if_neg (by have:=List.mem_range.1 hd;omega)]
      ·simp[EV.cells]
     rw[this]
     refine row2.frame fun _=>Al _ ?_
     have:=row2.block (by omega)
     exact Ba gp2 this (by simp)
    ·intro d hd
     by_cases hdi:d=i
     ·subst hdi
      simp only[if_true]
      rw[Al _ (by omega)]
      exact c2.at hb1 gq (nql _ _ gq (by intros;simp))
     ·simp only[hdi,if_false]
      have:=P.que d (by omega)
      exact B2 _ _ this (by intros;simp) (Ba this P.Fe (by simp))
    ·intro d hd
     by_cases hdi:d=i
     ·subst hdi
      simp only[if_true]
      rw[Al _ (by omega)]
      exact c2.at hb1 gc (nql _ _ gc (by intros;simp))
     ·simp only[hdi,if_false]
      have:=P.chan d (by omega)
      exact B2 _ _ this (by intros;simp) (Ba this P.Fe (by simp))
    ·intro d e hd he hde
     have lc:=fun d (hd:d<i)=>P.hb _ _ (P.chan d hd)
     by_cases hdi:d=i <;> by_cases hei:e=i
     ·omega
     ·simp only[hdi,hei,if_true,if_false]at hde;have:=lc e (by omega);omega
     ·simp only[hdi,hei,if_true,if_false]at hde;have:=lc d (by omega);omega
     ·simp only[hdi,hei,if_false]at hde;exact P.inj d e (by omega) (by omega) hde
    ·intro d hd
     by_cases hdi:d=i
     ·subst hdi;simp only[if_true];omega
     ·simp only[hdi,if_false];exact P.new.2.2 d (by omega)
   exact ih (i+1) _ _ _ _ _ (by omega) (by omega) P'
  ·have:i=g.D.toNat:=by omega
   subst this
   simp only[hlt,decide_false,Ab,Ads]
   exact .ret ⟨rfl,P.ext,P.hb,ql,q,c,sl,P⟩
theorem Aq7 {g:Gm}(hr:rtB g=true)(hK:1000<K){h:Aa}(hb:HB h):Ok (Xx K (gV g) h) fun v h'=>∃ p ql q c,v=.tuple [.ptr p 0,I 0]/\Ext h h'/\HB h'/\E6 h' p ql g.D.toNat q c g (fun _=>[])/\h.next<=p/\h.next<=ql/\∀ d,d<g.D.toNat->h.next<=q d/\h.next<=c d:=by
 have s:=Qs hr
 have:=s.d0;have:=s.d1
 simp only[Xx,gV,Ab]
 have hg:(h.new (.cells (gL g) 23)).get h.next=some (.cells (gL g) 23):=Ae _ _
 have hn:h.next<(h.new (.cells (gL g) 23)).next:=Nat.lt_succ_self _
 have hx:Ext h (h.new (.cells (gL g) 23)):=A1.new _ _
 generalize h.new (.cells (gL g) 23)=h1 at hg hn hx ⊢
 simp only[Gf hg rfl,Ax (show (gL g).length=6 from rfl),Ab]
 refine(Rt g h1).Aj ?_
 rintro _ h2 ⟨rfl,x2⟩
 rw[hr]
 have hg2:h2.get h.next=some (.cells (gL g) 23):=by rw[x2.get _ hn id];exact hg
 have hn2:h.next<h2.next:=Nat.lt_of_lt_of_le hn x2.next
 simp only[Ab,Ajn,Gf hg2 rfl,Ax (show (gL g).length=6 from rfl)]
 rw[Ca (l:=gL g++[.Af]) rfl]
 simp only[Ab]
 have hb2:=(x2.hb (hx.hb hb))
 have hg3:(h2.new (.cells (gL g++[.Af]) 152)).get h.next=some (.cells (gL g) 23):=by rw[Bj _ hn2];exact hg2
 have hp3:(h2.new (.cells (gL g++[.Af]) 152)).get h2.next=some (.cells (gL g++[.Af]) 152):=Ae _ _
 have x3:Ext h2 (h2.new (.cells (gL g++[.Af]) 152)):=A1.new _ _
 have hb3:HB (h2.new (.cells (gL g++[.Af]) 152)):=hb2.new _
 have n3:h2.next<(h2.new (.cells (gL g++[.Af]) 152)).next:=Nat.lt_succ_self _
 generalize h2.new (.cells (gL g++[.Af]) 152)=h3 at hg3 hp3 x3 hb3 n3 ⊢
 simp only[Cl hg3 rfl,gL,Ab,I]
 refine(Ano (K:=K) (p:=h2.next) s h2 hn2 hg2 K 0 0 (fun _=>0) (fun _=>0) .Af h3 (by omega) (by omega) ⟨hp3,.nil _ _ _ _,fun d hd=>absurd hd (Nat.not_lt_zero _),fun d hd=>absurd hd (Nat.not_lt_zero _),fun d e hd=>absurd hd (Nat.not_lt_zero _),⟨Nat.le_refl _,fun x=>absurd x (Nat.lt_irrefl _),fun d hd=>absurd hd (Nat.not_lt_zero _)⟩,x3,hb3⟩).mono ?_
 rintro v h' ⟨rfl,x4,hb4,ql,q,c,sl,P⟩
 refine⟨h2.next,ql,q,c,rfl,hx.trans (x2.trans x4),hb4,?_⟩
 have hpos:0<g.D.toNat:=by omega
 have hsl:=P.row.slice hpos
 subst hsl
 have t:=hx.next
 have t2:=x2.next
 exact⟨⟨hpos,P.Fe,P.row.block hpos,P.que,P.chan,P.inj⟩,by omega,by have:=P.new.2.1 hpos;omega,fun d hd=>by have:=P.new.2.2 d hd;omega⟩
theorem Atd {g:Gm}(hr:rtB g=false)(h:Aa):Ok (Xx K (gV g) h) fun v h'=>v=.tuple [.Db,I 20]/\Ext h h':=by
 simp only[Xx,gV,Ab]
 have hg:(h.new (.cells (gL g) 23)).get h.next=some (.cells (gL g) 23):=Ae _ _
 have hx:Ext h (h.new (.cells (gL g) 23)):=A1.new _ _
 generalize h.new (.cells (gL g) 23)=h1 at hg hx ⊢
 simp only[Gf hg rfl,Ax (show (gL g).length=6 from rfl),Ab]
 refine(Rt g h1).Aj ?_
 rintro _ h2 ⟨rfl,x2⟩
 rw[hr]
 simp only[Ab]
 exact .ret ⟨rfl,hx.trans x2⟩
end Go.Ev

namespace Go.Ev
open Go.Proofs
set_option maxRecDepth 10000
variable {K:Nat}
theorem Amr(n a:Int)(h:Aa):Pe K (I n) (I a) h=some (.bool (wi n 1 a),h):=by
 simp only[Pe,I,Ah,Ab]
 by_cases h1:1<=n
 ·simp only[h1,decide_true,Ab,Ah,P5,wi,Bool.true_and]
 ·simp only[h1,decide_false,Ab,Ah,P5,wi,Bool.false_and]
def Ox(size:Int):Cu:=.cells [.Af,I size,I 0,I 0,.bool false] 240
theorem Aqn {size:Int}(h1:1<=size)(h2:size<=64)(h:Aa):Gt K (I size) h=some (.tuple [.ptr h.next 0,I 0],h.new (Ox size)):=by
 have a:¬ size<1:=by omega
 have b:¬ 64<size:=by omega
 simp only[Gt,I,Ah,Ab,a,b,decide_false,Jv,Oq]
 rw[Ca (l:=[.Af,I size,I 0,I 0,.bool false]) rfl]
 simp only[Ab];rfl
structure Zn where
 l:List (List EV)
 safe:Nat
 st:Nat
 fin:Bool
def Zn.empty:Zn:=⟨[],0,0,false⟩
structure Ej(h:Aa)(z q:Nat)(size:Int)(Z:Zn):Prop where
 B4:∃ s,h.get z=some (.cells [s,I size,I Z.safe,I Z.st,.bool Z.fin] 240)/\Bz h s q 103 64 Z.l.length Z.l.flatten
 wf:∀ x ∈ Z.l,x.length=64
structure Ij(h:Aa)(V zl n:Nat)(z q:Nat->Nat)(size op cnt:Int)(down:Bool)(Zs:Nat->Zn):Prop where
 pos:0<n
 dev:h.get V=some (.cells [.slice zl 0 n n true,I size,I op,I cnt,.bool down] 183)
 row:h.get zl=some (.vec ((List.range n).map fun i=>.ptr (z i) 0) 180 1)
 B4:∀ i,i<n->Ej h (z i) (q i) size (Zs i)
 Apj:∀ i j,i<n->j<n->z i=z j->i=j
 Arz:∀ i j,i<n->j<n->(Zs i).l ≠ []->(Zs j).l ≠ []->q i=q j->i=j
structure Aww(h0 h:Aa)(V zl i:Nat)(z:Nat->Nat)(size op:Int)(s:EV):Prop where
 dev:h.get V=some (.cells [s,I size,I op,I 0,.bool false] 183)
 row:Bz h s zl 180 1 i ((List.range i).map fun d=>.ptr (z d) 0)
 B4:∀ d,d<i->h.get (z d)=some (Ox size)
 Apj:∀ d e,d<i->e<i->z d=z e->d=e
 new:h0.next<=V/\(0<i->h0.next<=zl)/\∀ d,d<i->h0.next<=z d
 ext:Ext h0 h
 hb:HB h
theorem Aoa {size op:Int}{n:Nat}(hn:n<=512)(s0:1<=size)(s1:size<=64)(h0:Aa){V:Nat}:∀ (m i:Nat) (zl:Nat) (z:Nat->Nat) (sl:EV) (h:Aa),n-i<m->i<=n->Aww h0 h V zl i z size op sl ->
 Ok (Ks K m (I size) (.ptr V 0) (I n) (I i) h) fun v h'=>v=.tuple [.ptr V 0,I 0]/\∃ zl z sl,Aww h0 h' V zl n z size op sl:=by
 intro m
 induction m with
 | zero=>intro i _ _ _ _ hm;omega
 | succ m ih=>
  intro i zl z sl h hm hi P
  simp only[Ks,I,Ah,Ab]
  by_cases hlt:(i:Int)<n
  ·simp only[hlt,decide_true,Ab,Aj0]
   have hq:=Aqn (K:=K) s0 s1 h
   simp only[I]at hq
   simp only[hq,Ab,Ah,not_true_eq_false,decide_false,Akb]
   have e1:Ext h (h.new (Ox size)):=A1.new _ _
   have hb1:HB (h.new (Ox size)):=P.hb.new _
   have gz:(h.new (Ox size)).get h.next=some (Ox size):=Ae _ _
   have n1:(h.new (Ox size)).next=h.next+1:=rfl
   generalize h.new (Ox size)=h1 at e1 hb1 gz n1 ⊢
   have gp:h1.get V=some (.cells [sl,I size,I op,I 0,.bool false] 183):=e1.at P.hb P.dev
   have row1:Bz h1 sl zl 180 1 i ((List.range i).map fun d=>.ptr (z d) 0):=P.row.frame fun hl=>e1.get _ (P.hb _ _ (P.row.block hl)) id
   have lp:=P.hb _ _ P.dev
   rw[Cl gp rfl]
   simp only[Ab]
   refine Ml (z:=[.Db]) row1 hb1 rfl rfl rfl (by omega) (by omega) ?_
   intro h2 row2 n2 c2
   have n0:=P.ext.next
   have nql:∀ x o,h1.get x=some o->(∀ l e sz,o ≠ .vec l e sz)->¬ (0<i/\x=zl):=by
    rintro x o hx hno ⟨hl,rfl⟩
    rw[row1.block hl]at hx;cases hx;exact hno _ _ _ rfl
   have gp2:=c2.at hb1 gp (nql _ _ gp (by intros;simp))
   refine Ok.st1 gp2 rfl rfl (by show 0<5;decide) ?_
   simp only[Aji,I,Ah,List.set]
   rw[Cx (by omega) (by omega)]
   have x2:Ext h0 h2:=by
    refine(P.ext.trans e1).then c2 fun j hj hlt=>?_
    have:=(P.new.2.1 hj.1);omega
   have hb2:=c2.hb hb1
   have lp2:V<h2.next:=by have:=c2.next;omega
   have x3:=x2.Az (.inr P.new.1) lp2 (.cells [EV.slice (h1.next+1) 0 (i+1) (i+1) true,I size,I op,I 0,.bool false] 183)
   have hb3:=hb2.put lp2 (.cells [EV.slice (h1.next+1) 0 (i+1) (i+1) true,I size,I op,I 0,.bool false] 183)
   have B2:∀ x o,h1.get x=some o->(∀ l e sz,o ≠ .vec l e sz)->x ≠ V->(h2.put V (.cells [EV.slice (h1.next+1) 0 (i+1) (i+1) true,I size,I op,I 0,.bool false] 183)).get x=some o:=by
    intro x o hx1 hno hxp
    rw[Al _ (Ne.symm hxp)]
    exact c2.at hb1 hx1 (nql _ _ hx1 hno)
   have P':Aww h0 (h2.put V (.cells [EV.slice (h1.next+1) 0 (i+1) (i+1) true,I size,I op,I 0,.bool false] 183)) V (h1.next+1) (i+1) (fun d=>if d=i then h.next else z d) size op (.slice (h1.next+1) 0 (i+1) (i+1) true):=by
    refine⟨Ai _ _ _,?_,?_,?_,⟨P.new.1,fun _=>by omega,?_⟩,x3,hb3⟩
    ·have:(List.range (i+1)).map (fun d=>EV.ptr (if d=i then h.next else z d) 0)=((List.range i).map fun d=>EV.ptr (z d) 0)++EV.cells (.ptr h.next 0):=by
      rw[List.range_succ,List.map_append]
      congr 1
      ·refine List.map_congr_left fun d hd=>?_
       rw[if_neg (by have:=List.mem_range.1 hd;omega)]
      ·simp[EV.cells]
     rw[this]
     refine row2.frame fun _=>Al _ ?_
     have:=row2.block (by omega)
     exact Ba gp2 this (by simp)
    ·intro d hd
     by_cases hdi:d=i
     ·subst hdi
      simp only[if_true]
      exact B2 _ _ gz (by intros;simp[Ox]) (Ba gz gp (by simp[Ox]))
     ·simp only[hdi,if_false]
      have:=e1.at P.hb (P.B4 d (by omega))
      exact B2 _ _ this (by intros;simp[Ox]) (Ba this gp (by simp[Ox]))
    ·intro d e hd he hde
     have lc:=fun d (hd:d<i)=>P.hb _ _ (P.B4 d hd)
     by_cases hdi:d=i <;> by_cases hei:e=i
     ·omega
     ·simp only[hdi,hei,if_true,if_false]at hde;have:=lc e (by omega);omega
     ·simp only[hdi,hei,if_true,if_false]at hde;have:=lc d (by omega);omega
     ·simp only[hdi,hei,if_false]at hde;exact P.Apj d e (by omega) (by omega) hde
    ·intro d hd
     by_cases hdi:d=i
     ·subst hdi;simp only[if_true];omega
     ·simp only[hdi,if_false];exact P.new.2.2 d (by omega)
   exact ih (i+1) _ _ _ _ (by omega) (by omega) P'
  ·have:i=n:=by omega
   subst this
   simp only[hlt,decide_false,Ab,Abu]
   exact .ret ⟨rfl,zl,z,sl,P⟩
def Acx(zones size op:Int):Bool:=wi zones 1 512 && wi op 1 64 && wi size 1 64
theorem Api {zones size op:Int}(hr:Acx zones size op=true)(hK:1000<K){h:Aa}(hb:HB h):Ok (Ags K (I zones) (I size) (I op) h) fun v h'=>∃ V zl z,v=.tuple [.ptr V 0,I 0]/\Ext h h'/\HB h'/\Ij h' V zl zones.toNat z (fun _=>0) size op 0 false (fun _=>Zn.empty)/\h.next<=V/\h.next<=zl/\∀ d,d<zones.toNat->h.next<=z d:=by
 simp only[Acx,Bool.and_eq_true]at hr
 obtain⟨⟨r1,r2⟩,r3⟩:=hr
 obtain⟨a0,a1⟩:=Tf.1 r1
 obtain⟨c0,c1⟩:=Tf.1 r3
 have w:=fun n a=>Amr (K:=K) n a h
 simp only[I]at w
 simp only[Ags,I,w,r1,r2,Ab,Ah,Abt,Ajw]
 rw[Ca (l:=[.Af,I size,I op,I 0,.bool false]) rfl]
 simp only[Ab]
 have P:Aww h (h.new (.cells [.Af,I size,I op,I 0,.bool false] 183)) h.next 0 0 (fun _=>0) size op .Af:=
  ⟨Ae _ _,.nil _ _ _ _,fun d hd=>absurd hd (Nat.not_lt_zero _),fun d e hd=>absurd hd (Nat.not_lt_zero _),⟨Nat.le_refl _,fun x=>absurd x (Nat.lt_irrefl _),fun d hd=>absurd hd (Nat.not_lt_zero _)⟩,A1.new _ _,hb.new _⟩
 have:=Aoa (K:=K) (n:=zones.toNat) (by omega) c0 c1 h K 0 0 (fun _=>0) .Af _ (by omega) (by omega) P
 rw[Int.toNat_of_nonneg (by omega)]at this
 refine this.mono ?_
 rintro v h' ⟨rfl,zl,z,sl,P⟩
 have hpos:0<zones.toNat:=by omega
 have hsl:=P.row.slice hpos
 subst hsl
 exact⟨h.next,zl,z,rfl,P.ext,P.hb,⟨hpos,P.dev,P.row.block hpos,fun i hi=>⟨⟨_,P.B4 i hi,.nil _ _ _ _⟩,fun x hx=>by cases hx⟩,P.Apj,fun i j _ _ a=>absurd rfl a⟩,Nat.le_refl _,P.new.2.1 hpos,P.new.2.2⟩
structure Wm(h:Aa)(D V M zl n:Nat)(z q:Nat->Nat)(size op cnt:Int)(down:Bool)(Ha happened:EV)(marks:List (EV × EV))(Zs:Nat->Zn):Prop where
 Cz:h.get D=some (.cells [.ptr V 0,Ha,happened,.map M] 166)
 marks:h.get M=some (.map marks)
 dev:Ij h V zl n z q size op cnt down Zs
theorem Ij.ext {h h':Aa}{V zl n:Nat}{z q:Nat->Nat}{size op cnt:Int}{down:Bool}{Zs:Nat->Zn}(d:Ij h V zl n z q size op cnt down Zs)(g:∀ i o,h.get i=some o->h'.get i=some o):Ij h' V zl n z q size op cnt down Zs:=by
 refine⟨d.pos,g _ _ d.dev,g _ _ d.row,fun i hi=>?_,d.Apj,d.Arz⟩
 obtain⟨s,a,b⟩:=(d.B4 i hi).B4
 exact⟨⟨s,g _ _ a,b.frame fun hl=>by rw[g _ _ (b.block hl),b.block hl]⟩,(d.B4 i hi).wf⟩
theorem E6.ext {h h':Aa}{p ql n:Nat}{q c:Nat->Nat}{g:Gm}{ps:Nat->List Int}(d:E6 h p ql n q c g ps)(e:∀ i o,h.get i=some o->h'.get i=some o):E6 h' p ql n q c g ps:=
 ⟨d.pos,e _ _ d.Fe,e _ _ d.row,fun i hi=>e _ _ (d.que i hi),fun i hi=>e _ _ (d.chan i hi),d.inj⟩
theorem Wm.ext {h h':Aa}{D V M zl n:Nat}{z q:Nat->Nat}{size op cnt:Int}{down:Bool}{Ha happened:EV}{marks:List (EV × EV)}{Zs:Nat->Zn}(d:Wm h D V M zl n z q size op cnt down Ha happened marks Zs)(e:∀ i o,h.get i=some o->h'.get i=some o):
 Wm h' D V M zl n z q size op cnt down Ha happened marks Zs:=⟨e _ _ d.Cz,e _ _ d.marks,d.dev.ext e⟩
theorem Ap1 {zones size op:Int}(hr:Acx zones size op=true)(hK:1000<K){h:Aa}(hb:HB h):Ok (Ag2 K (I zones) (I size) (I op) h) fun v h'=>∃ D V M zl z,v=.tuple [.ptr D 0,I 0]/\Ext h h'/\HB h'/\Wm h' D V M zl zones.toNat z (fun _=>0) size op 0 false .Af .Af [] (fun _=>Zn.empty)/\(h.next<=D/\h.next<=M)/\h.next<=V/\h.next<=zl/\∀ d,d<zones.toNat->h.next<=z d:=by
 simp only[Ag2]
 refine(Api (K:=K) hr hK hb).Aj ?_
 rintro _ h1 ⟨V,zl,z,rfl,x1,hb1,d1,nw⟩
 simp only[Ab,Ah,I,not_true_eq_false,decide_false,Ajp]
 rw[show Ain h1=some (.map h1.next,h1.new (.map [])) from rfl,A0,Ca (l:=[.ptr V 0,.Af,.Af,.map h1.next]) rfl]
 simp only[Ab]
 have x2:Ext h1 ((h1.new (.map [])).new (.cells [.ptr V 0,.Af,.Af,.map h1.next] 166)):=(A1.new _ _).Gg _
 refine .ret ⟨(h1.new (.map [])).next,V,h1.next,zl,z,rfl,x1.trans x2,(hb1.new _).new _,⟨Ae _ _,?_,d1.ext fun i o g=>x2.at hb1 g⟩,⟨by have:=x1.next;show h.next<=h1.next+1;omega,x1.next⟩,nw⟩
 rw[Bj _ (Nat.lt_succ_self _)];exact Ae _ _
end Go.Ev
