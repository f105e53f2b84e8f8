import Derived.Test.YtokpnommcenoaaaGreatDa
import Derived.Test.YtokpnommcenoaaaGreatWa
set_option linter.unusedVariables false
set_option linter.unusedSimpArgs false
set_option linter.unusedSectionVars false
namespace Go.Ev
open Go.Proofs
set_option maxRecDepth 10000
structure Gm where
 D:Int
 Z:Int
 S:Int
 B:Int
 P:Int
 O:Int
def gL(g:Gm):List EV:=[I g.D,I g.Z,I g.S,I g.B,I g.P,I g.O]
def gV(g:Gm):EV:=.agg (gL g)
def Gm.parts(g:Gm):Int:=1+(g.B+1) / 2
def Gm.T5(g:Gm):Int:=g.D*g.P+4
def Gm.least(g:Gm):Int:=min ((g.D-1)*(g.Z-g.P-2)-g.T5+1) (g.D*(g.Z-g.P-2)-2*g.T5+1)
def Gm.segments(g:Gm):Int:=g.least / 2-1-g.D*g.P
def wi(n a b:Int):Bool:=decide (a<=n) && decide (n<=b)
theorem Sp {n a b:Int}:wi n a b=true ↔ a<=n/\n<=b:=by simp[wi]
def smB(g:Gm):Bool:=wi g.D 3 8 && wi g.Z 1 64 && wi g.S 4 64 && wi g.B 1 256 && wi g.P 0 4 && wi g.O 4 64
def rtB(g:Gm):Bool:=smB g && (decide (g.parts<=g.S) && decide (2*g.B<=g.S*g.segments))
structure Sm(g:Gm):Prop where
 d0:3<=g.D
 d1:g.D<=8
 z0:1<=g.Z
 z1:g.Z<=64
 s0:4<=g.S
 s1:g.S<=64
 b0:1<=g.B
 b1:g.B<=256
 p0:0<=g.P
 p1:g.P<=4
 o0:4<=g.O
 o1:g.O<=64
theorem Hn {g:Gm}(h:smB g=true):Sm g:=by
 simp only[smB,Bool.and_eq_true,Sp]at h
 exact⟨h.1.1.1.1.1.1,h.1.1.1.1.1.2,h.1.1.1.1.2.1,h.1.1.1.1.2.2,h.1.1.1.2.1,h.1.1.1.2.2,h.1.1.2.1,h.1.1.2.2,h.1.2.1,h.1.2.2,h.2.1,h.2.2⟩
theorem Afd {g:Gm}(h:rtB g=true):Sm g:=Hn (by unfold rtB at h;exact((Bool.and_eq_true _ _).mp h).1)
theorem Xz {a b A B:Int}(h0:0<=a)(h1:a<=A)(h2:0<=b)(h3:b<=B):0<=a*b/\a*b<=A*B:=
 ⟨Int.mul_nonneg h0 h2,Int.mul_le_mul h1 h3 h2 (Int.le_trans h0 h1)⟩
theorem Wm {a b A B:Int}(h0:0<=a)(h1:a<=A)(h2 : -B<=b)(h3:b<=B)(hB:0<=B): -(A*B)<=a*b/\a*b<=A*B:=by
 have e1:a*b<=a*B:=Int.mul_le_mul_of_nonneg_left h3 h0
 have e2:a*B<=A*B:=Int.mul_le_mul_of_nonneg_right h1 hB
 have e3:a*(-B)<=a*b:=Int.mul_le_mul_of_nonneg_left h2 h0
 rw[Int.mul_neg]at e3
 omega
theorem Av0 {T:Cr}{t:Nat}{a:Int}{k:EV->R}:Rj (bin T .shr t) (.int .i64 a) (.int .u64 1) k=k (.int .i64 (a / 2)):=by
 cases a with
 | ofNat a=>
  show k (.int .i64 (.ofNat (Nat.shiftRight a 1)))=_
  rw[show Nat.shiftRight a 1=a / 2 from Nat.shiftRight_succ a 0];rfl
 | negSucc a=>
  show k (.int .i64 ((Int.negSucc a).fdiv (.ofNat 2)))=_
  rw[Int.fdiv_eq_ediv_of_nonneg _ (by decide)];rfl
theorem Abl(a b:Int):Ys a b=decide (a<b):=by rw[<-Afe,Ui]
theorem min2 {T:Cr}{ts:Array TypeId}{a b:Int}{h:Ac}:builtin T .min ts [.int .i64 a,.int .i64 b] h=some (.int .i64 (min a b),h):=by
 simp only[builtin,Ks,Au,Abl]
 rw[Ao8]
 by_cases h1:b<a
 ·rw[if_pos h1,Int.min_eq_right (by omega)]
 ·rw[if_neg h1,Int.min_eq_left (by omega)]
section
variable {K:Nat}
theorem Yb(n a b:Int)(h:Ac):Ew K (I n) (I a) (I b) h=some (.bool (wi n a b),h):=by
 simp only[Ew,K8,I,A2,Atn]
 by_cases h1:a<=n
 ·simp only[h1,decide_true,Ak,Yp,wi,Bool.true_and]
 ·simp only[h1,decide_false,Au,Yp,wi,Bool.false_and]
theorem Yt(g:Gm)(h:Ac):Hi K (gV g) h=some (.bool (smB g),h.new (.cells (gL g) 23)):=by
 simp only[Hi,gV,Aj]
 have hg:(h.new (.cells (gL g) 23)).get h.next=some (.cells (gL g) 23):=As _ _
 generalize h.new (.cells (gL g) 23)=h1 at hg ⊢
 have w:=fun n a b=>Yb (K:=K) n a b h1
 simp only[I]at w
 simp only[Aj,D9 hg rfl,gL,I,w,A2]
 unfold smB
 cases wi g.D 3 8 with
 | false=>simp only[Aj,A2,Co,Cp,Cn,Cg,Ch,Bool.false_and]
 | true=>
 simp only[Aj,D9 hg rfl,gL,I,w,A2,Co]
 cases wi g.Z 1 64 with
 | false=>simp only[Aj,A2,Co,Cp,Cn,Cg,Ch,Bool.false_and,Bool.and_false]
 | true=>
 simp only[Aj,D9 hg rfl,gL,I,w,A2,Cp]
 cases wi g.S 4 64 with
 | false=>simp only[Aj,A2,Co,Cp,Cn,Cg,Ch,Bool.false_and,Bool.and_false]
 | true=>
 simp only[Aj,D9 hg rfl,gL,I,w,A2,Cn]
 cases wi g.B 1 256 with
 | false=>simp only[Aj,A2,Co,Cp,Cn,Cg,Ch,Bool.false_and,Bool.and_false]
 | true=>
 simp only[Aj,D9 hg rfl,gL,I,w,A2,Cg]
 cases wi g.P 0 4 with
 | false=>simp only[Aj,A2,Co,Cp,Cn,Cg,Ch,Bool.false_and,Bool.and_false]
 | true=>
 simp only[Aj,D9 hg rfl,gL,I,w,A2,Ch,Bool.true_and]
theorem Y6 {g:Gm}(s:Sm g)(h:Ac):Hl K (gV g) h=some (I g.parts,h.new (.cells (gL g) 23)):=by
 have:=s.b0;have:=s.b1
 simp only[Hl,gV,Aj]
 have hg:(h.new (.cells (gL g) 23)).get h.next=some (.cells (gL g) 23):=As _ _
 generalize h.new (.cells (gL g) 23)=h1 at hg ⊢
 simp only[Aj,D9 hg rfl,gL,I,A2]
 rw[Ee (n:=g.B+2) (by omega) (by omega),Ee (n:=g.B+2-1) (by omega) (by omega),Aoa (by omega) (by omega) (by omega)]
 simp only[A2]
 rw[Ee (by omega) (by omega)]
 rw[show 1+(g.B+2-1) / 2=g.parts by unfold Gm.parts;rw[show g.B+2-1=g.B+1 by omega]]
theorem V9 {g:Gm}(s:Sm g)(h:Ac):F8 K (gV g) h=some (I g.T5,h.new (.cells (gL g) 23)):=by
 have:=s.d0;have:=s.d1;have:=s.p0;have:=s.p1
 obtain⟨m0,m1⟩:=Xz (a:=g.D) (b:=g.P) (A:=8) (B:=4) (by omega) (by omega) (by omega) (by omega)
 simp only[F8,gV,Aj]
 have hg:(h.new (.cells (gL g) 23)).get h.next=some (.cells (gL g) 23):=As _ _
 generalize h.new (.cells (gL g) 23)=h1 at hg ⊢
 simp only[Aj,D9 hg rfl,gL,I,A2]
 rw[Ee (n:=g.D*g.P) (by omega) (by omega),Ee (by omega) (by omega)];rfl
theorem Py {g:Gm}(s:Sm g)(h:Ac):Dr K (gV g) h=some (I (g.D*g.Z),h.new (.cells (gL g) 23)):=by
 have:=s.d0;have:=s.d1;have:=s.z0;have:=s.z1
 obtain⟨m0,m1⟩:=Xz (a:=g.D) (b:=g.Z) (A:=8) (B:=64) (by omega) (by omega) (by omega) (by omega)
 simp only[Dr,gV,Aj]
 have hg:(h.new (.cells (gL g) 23)).get h.next=some (.cells (gL g) 23):=As _ _
 generalize h.new (.cells (gL g) 23)=h1 at hg ⊢
 simp only[Aj,D9 hg rfl,gL,I,A2]
 rw[Ee (n:=g.D*g.Z) (by omega) (by omega)]
theorem Sm.Am0 {g:Gm}(s:Sm g):(0<=g.D*g.P/\g.D*g.P<=32)/\(-640<=(g.D-1)*(g.Z-g.P-2)/\(g.D-1)*(g.Z-g.P-2)<=640)/\(-640<=g.D*(g.Z-g.P-2)/\g.D*(g.Z-g.P-2)<=640):=by
 have:=s.d0;have:=s.d1;have:=s.p0;have:=s.p1;have:=s.z0;have:=s.z1
 obtain⟨a0,a1⟩:=Xz (a:=g.D) (b:=g.P) (A:=8) (B:=4) (by omega) (by omega) (by omega) (by omega)
 obtain⟨b0,b1⟩:=Wm (a:=g.D-1) (b:=g.Z-g.P-2) (A:=10) (B:=64) (by omega) (by omega) (by omega) (by omega) (by omega)
 obtain⟨c0,c1⟩:=Wm (a:=g.D) (b:=g.Z-g.P-2) (A:=10) (B:=64) (by omega) (by omega) (by omega) (by omega) (by omega)
 omega
theorem Uy {g:Gm}(s:Sm g)(h:Ac):Ok (Fp K (gV g) h) fun v h'=>v=I g.segments/\Ext h h':=by
 obtain⟨⟨a0,a1⟩,⟨b0,b1⟩,c0,c1⟩:=s.Am0
 have:=s.d0;have:=s.d1;have:=s.p0;have:=s.p1;have:=s.z0;have:=s.z1
 simp only[Fp,gV,Aj]
 have hg:(h.new (.cells (gL g) 23)).get h.next=some (.cells (gL g) 23):=As _ _
 have hn:h.next<(h.new (.cells (gL g) 23)).next:=Nat.lt_succ_self _
 have hx:Ext h (h.new (.cells (gL g) 23)):=Ed.new _ _
 generalize h.new (.cells (gL g) 23)=h1 at hg hn hx ⊢
 simp only[Aj,Ff,Cw hn,D9 hg rfl,Ms hg rfl,B5 (show (gL g).length=6 from rfl),gL,I,A2]
 rw[Ee (n:=g.Z-g.P) (by omega) (by omega),Ee (n:=g.Z-g.P-2) (by omega) (by omega)]
 refine Ok.C0 (by kernel_rfl) (by kernel_rfl) (P:=fun v h2=>v=I g.T5/\Ext h1.lift h2) ⟨_,_,V9 s _,rfl,Ed.new _ _⟩ (fun _ _ p=>p.2) ?_
 rintro _ h2 h3 ⟨rfl,_⟩ _ x3
 have hg3:h3.get h.next=some (.cells (gL g) 23):=by rw[x3.get _ hn id];exact hg
 simp only[Aj,D9 hg3 rfl,gL,I,A2]
 unfold Gm.T5
 rw[Ee (n:=g.D-1) (by omega) (by omega),Ee (n:=(g.D-1)*(g.Z-g.P-2)) (by omega) (by omega),Ee (n:=(g.D-1)*(g.Z-g.P-2)-(g.D*g.P+4)) (by omega) (by omega),Ee (n:=(g.D-1)*(g.Z-g.P-2)-(g.D*g.P+4)+1) (by omega) (by omega),
  Ee (n:=g.D*(g.Z-g.P-2)) (by omega) (by omega),Ee (n:=2*(g.D*g.P+4)) (by omega) (by omega),Ee (n:=g.D*(g.Z-g.P-2)-2*(g.D*g.P+4)) (by omega) (by omega),Ee (n:=g.D*(g.Z-g.P-2)-2*(g.D*g.P+4)+1) (by omega) (by omega),
  min2,Cc,Av0]
 simp only[A2,Aj,D9 hg3 rfl,gL,I]
 have hl:g.least=min ((g.D-1)*(g.Z-g.P-2)-(g.D*g.P+4)+1) (g.D*(g.Z-g.P-2)-2*(g.D*g.P+4)+1):=rfl
 rw[<-hl]
 have hl0 : -10000<=g.least:=by omega
 have hl1:g.least<=10000:=by omega
 rw[Ee (n:=g.least / 2-1) (by omega) (by omega),Ee (n:=g.D*g.P) (by omega) (by omega),Ee (n:=g.least / 2-1-g.D*g.P) (by omega) (by omega)]
 exact .ret ⟨rfl,hx.trans x3⟩
end
end Go.Ev

namespace Go.Ev
open Go.Proofs
set_option maxRecDepth 10000
variable {K:Nat}
theorem Ai9 {g:Gm}(s:Sm g): -2000<=g.segments/\g.segments<=2000:=by
 obtain⟨⟨a0,a1⟩,⟨b0,b1⟩,c0,c1⟩:=s.Am0
 have hl:g.least=min ((g.D-1)*(g.Z-g.P-2)-(g.D*g.P+4)+1) (g.D*(g.Z-g.P-2)-2*(g.D*g.P+4)+1):=rfl
 have hs:g.segments=g.least / 2-1-g.D*g.P:=rfl
 omega
theorem Rw(g:Gm)(h:Ac):Ok (Fq K (gV g) h) fun v h'=>v=.bool (rtB g)/\Ext h h':=by
 simp only[Fq,gV,Aj]
 have hg:(h.new (.cells (gL g) 23)).get h.next=some (.cells (gL g) 23):=As _ _
 have hn:h.next<(h.new (.cells (gL g) 23)).next:=Nat.lt_succ_self _
 have hx:Ext h (h.new (.cells (gL g) 23)):=Ed.new _ _
 generalize h.new (.cells (gL g) 23)=h1 at hg hn hx ⊢
 simp only[Aj,Ff,Cw hn,D9 hg rfl,Ms hg rfl,B5 (show (gL g).length=6 from rfl)]
 refine Ok.C0 (by kernel_rfl) (by kernel_rfl) (P:=fun v h2=>v=.bool (smB g)/\Ext h1.lift h2) ⟨_,_,Yt g _,rfl,Ed.new _ _⟩ (fun _ _ p=>p.2) ?_
 rintro _ h2 h3 ⟨rfl,_⟩ _ x3
 have hg3:h3.get h.next=some (.cells (gL g) 23):=by rw[x3.get _ hn id];exact hg
 unfold rtB
 cases hs:smB g with
 | false=>simp only[Aj,A2,Fj,Eg,Bool.false_and];exact .ret ⟨rfl,hx.trans x3⟩
 | true=>
 have s:=Hn hs
 have:=s.b0;have:=s.b1
 simp only[Aj,A2,Ff,Cw hn,D9 hg3 rfl,Ms hg3 rfl,B5 (show (gL g).length=6 from rfl),Bool.true_and]
 refine Ok.C0 (by kernel_rfl) (by kernel_rfl) (P:=fun v h4=>v=I g.parts/\Ext h3.lift h4) ⟨_,_,Y6 s _,rfl,Ed.new _ _⟩ (fun _ _ p=>p.2) ?_
 rintro _ h4 h5 ⟨rfl,_⟩ _ x5
 have x5':=x3.trans x5
 have hg5:h5.get h.next=some (.cells (gL g) 23):=by rw[x5'.get _ hn id];exact hg
 simp only[Aj,A2,Ff,Cw hn,D9 hg5 rfl,gL,I,Fj]
 by_cases hp:g.parts<=g.S
 ·simp only[hp,decide_true,Aj,Ff,Cw hn,D9 hg5 rfl,Ms hg5 rfl,B5 (show (gL g).length=6 from rfl),gL,I,A2,Bool.true_and]
  refine Ok.C0 (by kernel_rfl) (by kernel_rfl) (Uy s _) (fun _ _ p=>p.2) ?_
  rintro _ h6 h7 ⟨rfl,_⟩ _ x7
  obtain⟨t0,t1⟩:=Ai9 s
  have:=s.s0;have:=s.s1
  obtain⟨m0,m1⟩:=Wm (a:=g.S) (b:=g.segments) (A:=64) (B:=2000) (by omega) (by omega) (by omega) (by omega) (by omega)
  simp only[A2,I,Eg,Aj]
  rw[Ee (n:=2*g.B) (by omega) (by omega),Ee (n:=g.S*g.segments) (by omega) (by omega)]
  exact .ret ⟨rfl,hx.trans (x5'.trans x7)⟩
 ·simp only[hp,decide_false,Aj,A2,Eg,Bool.false_and]
  exact .ret ⟨rfl,hx.trans x5'⟩
theorem Ao3 {n:Int}(h0 : -100000<=n)(h1:n<=100000)(h:Ac):E4 K (I n) h=some (I (n / 2),h):=by
 simp only[E4,I,A2,Aj]
 by_cases hn:n<0
 ·simp only[hn,decide_true,Aj,A2]
  rw[Ee (by omega) (by omega),Aoa (by omega) (by omega) (by omega)]
  simp only[Akp]
  rw[Ee (by omega) (by omega),show 0-(1-n) / 2=n / 2 by omega]
 ·simp only[hn,decide_false,Aj,Im]
  rw[Aoa (by omega) (by omega) (by omega)]
theorem Adg {g:Gm}(s:Sm g){a:Nat}{h:Ac}(hg:h.get a=some (.cells (gL g) 114)):∀ (m:Nat) (i:Int),0<=i->(g.B-i).toNat<m->i<=g.B+1->i % 2=0 ->
 Bo K m (.ptr a 0) (I (1+i / 2)) (I i) h=some (I g.parts,h):=by
 have:=s.b0;have:=s.b1
 intro m
 induction m with
 | zero=>intro i _ hm;omega
 | succ m ih=>
  intro i hi hm hle hev
  simp only[Bo,Aj,A2,D9 hg rfl,gL,I]
  by_cases hlt:i<g.B
  ·simp only[hlt,decide_true,Aj,A2,G5,G0]
   rw[Ee (n:=1+i / 2+1) (by omega) (by omega),Ee (n:=i+2) (by omega) (by omega),show 1+i / 2+1=1+(i+2) / 2 by omega]
   exact ih (i+2) (by omega) (by omega) (by omega) (by omega)
  ·simp only[hlt,decide_false,Aj,El]
   unfold Gm.parts
   rw[show 1+i / 2=1+(g.B+1) / 2 by omega]
theorem Aie {g:Gm}(s:Sm g)(hK:1000<K)(h:Ac):D3 K (gV g) h=some (I g.parts,h.new (.cells (gL g) 114)):=by
 have:=s.b0;have:=s.b1
 simp only[D3,gV,Aj]
 exact Adg s (As _ _) K 0 (by omega) (by omega) (by omega) (by omega)
theorem Aa6 {g:Gm}(s:Sm g)(h:Ac):Ok (Dd K (gV g) h) fun v h'=>v=I g.segments/\Ext h h':=by
 obtain⟨⟨a0,a1⟩,⟨b0,b1⟩,c0,c1⟩:=s.Am0
 have:=s.d0;have:=s.d1;have:=s.p0;have:=s.p1;have:=s.z0;have:=s.z1
 simp only[Dd,gV,Aj]
 have hg:(h.new (.cells (gL g) 114)).get h.next=some (.cells (gL g) 114):=As _ _
 have hn:h.next<(h.new (.cells (gL g) 114)).next:=Nat.lt_succ_self _
 have hx:Ext h (h.new (.cells (gL g) 114)):=Ed.new _ _
 generalize h.new (.cells (gL g) 114)=h1 at hg hn hx ⊢
 have hl:g.least=min ((g.D-1)*(g.Z-g.P-2)-(g.D*g.P+4)+1) (g.D*(g.Z-g.P-2)-2*(g.D*g.P+4)+1):=rfl
 have fin:∀ n,n=g.least->Ok (Cy K (.ptr h.next 0) (I n) h1) fun v h'=>v=I g.segments/\Ext h h':=by
  rintro _ rfl
  simp only[Cy,Aj]
  refine Ok.C0 (by kernel_rfl) (by kernel_rfl) (P:=fun v h2=>v=I (g.least / 2)/\Ext h1.lift h2) ⟨_,_,Ao3 (by omega) (by omega) _,rfl,Ed.refl _⟩ (fun _ _ p=>p.2) ?_
  rintro _ h2 h3 ⟨rfl,_⟩ _ x3
  have hg3:h3.get h.next=some (.cells (gL g) 114):=by rw[x3.get _ hn id];exact hg
  simp only[Aj,Ff,Cw hn,D9 hg3 rfl,gL,I,A2]
  rw[Ee (n:=g.least / 2-1) (by omega) (by omega),Ee (n:=g.D*g.P) (by omega) (by omega),Ee (n:=g.least / 2-1-g.D*g.P) (by omega) (by omega)]
  exact .ret ⟨rfl,hx.trans x3⟩
 simp only[Aj,D9 hg rfl,gL,I,A2]
 rw[Ee (n:=g.Z-g.P) (by omega) (by omega),Ee (n:=g.Z-g.P-2) (by omega) (by omega),Ee (n:=g.D*g.P) (by omega) (by omega),Ee (n:=g.D*g.P+4) (by omega) (by omega),
  Ee (n:=g.D-1) (by omega) (by omega),Ee (n:=(g.D-1)*(g.Z-g.P-2)) (by omega) (by omega),Ee (n:=(g.D-1)*(g.Z-g.P-2)-(g.D*g.P+4)) (by omega) (by omega),Ee (n:=(g.D-1)*(g.Z-g.P-2)-(g.D*g.P+4)+1) (by omega) (by omega),
  Ee (n:=g.D*(g.Z-g.P-2)) (by omega) (by omega),Ee (n:=2*(g.D*g.P+4)) (by omega) (by omega),Ee (n:=g.D*(g.Z-g.P-2)-2*(g.D*g.P+4)) (by omega) (by omega),Ee (n:=g.D*(g.Z-g.P-2)-2*(g.D*g.P+4)+1) (by omega) (by omega)]
 by_cases hlt:g.D*(g.Z-g.P-2)-2*(g.D*g.P+4)+1<(g.D-1)*(g.Z-g.P-2)-(g.D*g.P+4)+1
 ·simp only[hlt,decide_true,Aj]
  exact fin _ (by omega)
 ·simp only[hlt,decide_false,Aj]
  exact fin _ (by omega)
theorem Ahs(g:Gm)(hK:1000<K)(h:Ac):Ok (D6 K (gV g) h) fun v h'=>v=.bool (rtB g)/\Ext h h':=by
 simp only[D6,gV,Aj]
 have hg:(h.new (.cells (gL g) 114)).get h.next=some (.cells (gL g) 114):=As _ _
 have hn:h.next<(h.new (.cells (gL g) 114)).next:=Nat.lt_succ_self _
 have hx:Ext h (h.new (.cells (gL g) 114)):=Ed.new _ _
 generalize h.new (.cells (gL g) 114)=h1 at hg hn hx ⊢
 have no:∀ b,b=false->Ok (some (.bool false,h1)) fun v h'=>v=.bool (b && (decide (g.parts<=g.S) && decide (2*g.B<=g.S*g.segments)))/\Ext h h':=by
  rintro _ rfl;exact .ret ⟨by rw[Bool.false_and],hx⟩
 unfold rtB
 have hsm:∀ {p:Prop} [Decidable p],¬ p->(smB g=true->p)->smB g=false:=fun hp hq=>by
  cases hb:smB g with
  | false=>rfl
  | true=>exact absurd (hq hb) hp
 simp only[Aj,D9 hg rfl,gL,I,A2]
 by_cases c1:g.D<3
 ·simp only[c1,decide_true,Aj,A2,C5,Cl,B0,Bv,Bn,Bk,Bf,Ba,A4,A3,A0]
  exact no _ (hsm (p:=¬ g.D<3) (by simpa using c1) fun hb=>by have:=(Hn hb).d0;omega)
 simp only[c1,decide_false,Aj,A2,D9 hg rfl,gL,I,C5]
 by_cases c2:8<g.D
 ·simp only[c2,decide_true,Aj,A2,Cl,B0,Bv,Bn,Bk,Bf,Ba,A4,A3,A0]
  exact no _ (hsm (p:=¬ 8<g.D) (by simpa using c2) fun hb=>by have:=(Hn hb).d1;omega)
 simp only[c2,decide_false,Aj,A2,D9 hg rfl,gL,I,Cl]
 by_cases c3:g.Z<1
 ·simp only[c3,decide_true,Aj,A2,B0,Bv,Bn,Bk,Bf,Ba,A4,A3,A0]
  exact no _ (hsm (p:=¬ g.Z<1) (by simpa using c3) fun hb=>by have:=(Hn hb).z0;omega)
 simp only[c3,decide_false,Aj,A2,D9 hg rfl,gL,I,B0]
 by_cases c4:64<g.Z
 ·simp only[c4,decide_true,Aj,A2,Bv,Bn,Bk,Bf,Ba,A4,A3,A0]
  exact no _ (hsm (p:=¬ 64<g.Z) (by simpa using c4) fun hb=>by have:=(Hn hb).z1;omega)
 simp only[c4,decide_false,Aj,A2,D9 hg rfl,gL,I,Bv]
 by_cases c5:g.S<4
 ·simp only[c5,decide_true,Aj,A2,Bn,Bk,Bf,Ba,A4,A3,A0]
  exact no _ (hsm (p:=¬ g.S<4) (by simpa using c5) fun hb=>by have:=(Hn hb).s0;omega)
 simp only[c5,decide_false,Aj,A2,D9 hg rfl,gL,I,Bn]
 by_cases c6:64<g.S
 ·simp only[c6,decide_true,Aj,A2,Bk,Bf,Ba,A4,A3,A0]
  exact no _ (hsm (p:=¬ 64<g.S) (by simpa using c6) fun hb=>by have:=(Hn hb).s1;omega)
 simp only[c6,decide_false,Aj,A2,D9 hg rfl,gL,I,Bk]
 by_cases c7:g.B<1
 ·simp only[c7,decide_true,Aj,A2,Bf,Ba,A4,A3,A0]
  exact no _ (hsm (p:=¬ g.B<1) (by simpa using c7) fun hb=>by have:=(Hn hb).b0;omega)
 simp only[c7,decide_false,Aj,A2,D9 hg rfl,gL,I,Bf]
 by_cases c8:256<g.B
 ·simp only[c8,decide_true,Aj,A2,Ba,A4,A3,A0]
  exact no _ (hsm (p:=¬ 256<g.B) (by simpa using c8) fun hb=>by have:=(Hn hb).b1;omega)
 simp only[c8,decide_false,Aj,A2,D9 hg rfl,gL,I,Ba]
 by_cases c9:g.P<0
 ·simp only[c9,decide_true,Aj,A2,A4,A3,A0]
  exact no _ (hsm (p:=¬ g.P<0) (by simpa using c9) fun hb=>by have:=(Hn hb).p0;omega)
 simp only[c9,decide_false,Aj,A2,D9 hg rfl,gL,I,A4]
 by_cases d1:4<g.P
 ·simp only[d1,decide_true,Aj,A2,A3,A0]
  exact no _ (hsm (p:=¬ 4<g.P) (by simpa using d1) fun hb=>by have:=(Hn hb).p1;omega)
 simp only[d1,decide_false,Aj,A2,D9 hg rfl,gL,I,A3]
 by_cases d2:g.O<4
 ·simp only[d2,decide_true,Aj,A2,A0]
  exact no _ (hsm (p:=¬ g.O<4) (by simpa using d2) fun hb=>by have:=(Hn hb).o0;omega)
 simp only[d2,decide_false,Aj,A2,D9 hg rfl,gL,I,A0]
 by_cases d3:64<g.O
 ·simp only[d3,decide_true,Aj]
  exact no _ (hsm (p:=¬ 64<g.O) (by simpa using d3) fun hb=>by have:=(Hn hb).o1;omega)
 have hs:smB g=true:=by
  simp only[smB,Bool.and_eq_true,Sp];omega
 have s:=Hn hs
 rw[hs]
 simp only[d3,decide_false,Aj,A2,G4,Ff,Cw hn,Ms hg rfl,B5 (show (gL g).length=6 from rfl),Bool.true_and]
 refine Ok.C0 (by kernel_rfl) (by kernel_rfl) (P:=fun v h4=>v=I g.parts/\Ext h1.lift h4) ⟨_,_,Aie s hK _,rfl,Ed.new _ _⟩ (fun _ _ p=>p.2) ?_
 rintro _ h4 h5 ⟨rfl,_⟩ _ x5
 have hg5:h5.get h.next=some (.cells (gL g) 114):=by rw[x5.get _ hn id];exact hg
 simp only[Aj,A2,Ff,Cw hn,D9 hg5 rfl,gL,I]
 by_cases hp:g.parts<=g.S
 ·simp only[hp,decide_true,Aj,Ff,Cw hn,D9 hg5 rfl,Ms hg5 rfl,B5 (show (gL g).length=6 from rfl),gL,I,A2,Bool.true_and]
  refine Ok.C0 (by kernel_rfl) (by kernel_rfl) (Aa6 s _) (fun _ _ p=>p.2) ?_
  rintro _ h6 h7 ⟨rfl,_⟩ _ x7
  obtain⟨t0,t1⟩:=Ai9 s
  have:=s.s0;have:=s.s1;have:=s.b0;have:=s.b1
  obtain⟨m0,m1⟩:=Wm (a:=g.S) (b:=g.segments) (A:=64) (B:=2000) (by omega) (by omega) (by omega) (by omega) (by omega)
  simp only[A2,I,De,Aj]
  rw[Ee (n:=2*g.B) (by omega) (by omega),Ee (n:=g.S*g.segments) (by omega) (by omega)]
  exact .ret ⟨rfl,hx.trans (x5.trans x7)⟩
 ·simp only[hp,decide_false,Aj,A2,De,Bool.false_and]
  exact .ret ⟨rfl,hx.trans x5⟩
end Go.Ev

namespace Go.Ev
open Go.Proofs
set_option maxRecDepth 10000
variable {K:Nat}
theorem Abj {n:Nat}(h1:1<=n)(h2:n<=4096)(h:Ac):Nh K (I n) h=some (.tuple [.ptr (h.next+1) 0,I 0],(h.new (.chan n [])).new (.cells [.chan h.next] 266)):=by
 simp only[Nh,I,A2,Aj]
 have a:¬ (n:Int)<1:=by omega
 have b:¬ (4096:Int)<(n:Int):=by omega
 simp only[a,b,decide_false,Aj,A2,Ou,T7]
 have hm:Q0 (.int .i64 (n:Int)) h=some (.chan h.next,h.new (.chan n [])):=by
  show Al (Nat.ble n 65536) _ none=_
  rw[Nat.ble_eq_true_of_le (by omega),Ak]
 rw[hm,Cc,F3 (l:=[.chan h.next]) rfl]
 simp only[Aj];rfl
structure Sn(h:Ac)(p ql n:Nat)(q c:Nat->Nat)(g:Gm)(ps:Nat->List Int):Prop where
 pos:0<n
 Aem:h.get p=some (.cells (gL g++[.slice ql 0 n n true]) 198)
 row:h.get ql=some (.vec ((List.range n).map fun d=>.ptr (q d) 0) 199 1)
 que:∀ d,d<n->h.get (q d)=some (.cells [.chan (c d)] 266)
 chan:∀ d,d<n->h.get (c d)=some (.chan g.Z.toNat ((ps d).map I))
 inj:∀ d e,d<n->e<n->c d=c e->d=e
structure Ae1(h0 h:Ac)(p ql i:Nat)(q c:Nat->Nat)(g:Gm)(s:EV):Prop where
 Aem:h.get p=some (.cells (gL g++[s]) 198)
 row:Fv h s ql 199 1 i ((List.range i).map fun d=>.ptr (q d) 0)
 que:∀ d,d<i->h.get (q d)=some (.cells [.chan (c d)] 266)
 chan:∀ d,d<i->h.get (c d)=some (.chan g.Z.toNat [])
 inj:∀ d e,d<i->e<i->c d=c e->d=e
 new:h0.next<=p/\(0<i->h0.next<=ql)/\∀ d,d<i->h0.next<=q d/\h0.next<=c d
 ext:Ext h0 h
 hb:HB h
theorem Y4 {g:Gm}(s:Sm g)(h0:Ac){b p:Nat}(hbp:b<h0.next)(hg:h0.get b=some (.cells (gL g) 23)):∀ (m i:Nat) (ql:Nat) (q c:Nat->Nat) (sl:EV) (h:Ac),g.D.toNat-i<m->i<=g.D.toNat->Ae1 h0 h p ql i q c g sl ->
 Ok (Fg K m (.ptr b 0) (.ptr p 0) (I g.D) (I i) h) fun v h'=>v=.tuple [.ptr p 0,I 0]/\Ext h0 h'/\HB h'/\∃ ql q c sl,Ae1 h0 h' p ql g.D.toNat q c g sl:=by
 have:=s.d0;have:=s.d1;have:=s.z0;have:=s.z1
 intro m
 induction m with
 | zero=>intro i _ _ _ _ _ hm;omega
 | succ m ih=>
  intro i ql q c sl h hm hi P
  simp only[Fg,I,A2,Aj]
  by_cases hlt:(i:Int)<g.D
  ·have hgb:h.get b=some (.cells (gL g) 23):=by rw[P.ext.get _ hbp id];exact hg
   simp only[hlt,decide_true,Aj,Ve,D9 hgb rfl,gL,I]
   have hq:=Abj (K:=K) (n:=g.Z.toNat) (by omega) (by omega) h
   rw[Int.toNat_of_nonneg (by omega)]at hq
   simp only[I]at hq
   simp only[hq,Aj,A2,not_true_eq_false,decide_false,U6]
   have e1:Ext h ((h.new (.chan g.Z.toNat [])).new (.cells [.chan h.next] 266)):=(Ed.new _ _).trans (Ed.new _ _)
   have hb1:HB ((h.new (.chan g.Z.toNat [])).new (.cells [.chan h.next] 266)):=(P.hb.new _).new _
   have gq:((h.new (.chan g.Z.toNat [])).new (.cells [.chan h.next] 266)).get (h.next+1)=some (.cells [.chan h.next] 266):=As _ _
   have gc:((h.new (.chan g.Z.toNat [])).new (.cells [.chan h.next] 266)).get h.next=some (.chan g.Z.toNat []):=by rw[Hm _ (Nat.lt_succ_self _)];exact As _ _
   have n1:((h.new (.chan g.Z.toNat [])).new (.cells [.chan h.next] 266)).next=h.next+2:=rfl
   generalize (h.new (.chan g.Z.toNat [])).new (.cells [.chan h.next] 266)=h1 at e1 hb1 gq gc n1 ⊢
   have gp:h1.get p=some (.cells (gL g++[sl]) 198):=e1.at P.hb P.Aem
   have row1:Fv h1 sl ql 199 1 i ((List.range i).map fun d=>.ptr (q d) 0):=P.row.frame fun hl=>e1.get _ (P.hb _ _ (P.row.block hl)) id
   have lp:=P.hb _ _ P.Aem
   rw[D9 gp rfl,show (gL g++[sl])[6]? = some sl from rfl,Afj]
   refine Yk (z:=[.Bj]) row1 hb1 rfl rfl rfl (by omega) (by omega) ?_
   intro h2 row2 n2 c2
   have n0:=P.ext.next
   have nql:∀ x o,h1.get x=some o->(∀ l e sz,o ≠ .vec l e sz)->¬ (0<i/\x=ql):=by
    rintro x o hx hno ⟨hl,rfl⟩
    rw[row1.block hl]at hx;cases hx;exact hno _ _ _ rfl
   have gp2:h2.get p=some (.cells (gL g++[sl]) 198):=c2.at hb1 gp (nql _ _ gp (by intros;simp))
   refine Ok.st (gL g++[EV.slice (h1.next+1) 0 (i+1) (i+1) true]) gp2 rfl rfl rfl ?_
   simp only[Vh,I,A2]
   rw[Ee (by omega) (by omega)]
   have hE:Ext h h2->Ext h0 h2:=fun x=>P.ext.trans x
   have x2:Ext h0 h2:=by
    refine(P.ext.trans e1).then c2 fun j hj hlt=>?_
    have:=(P.new.2.1 hj.1);omega
   have x3:Ext h0 (h2.put p (.cells (gL g++[EV.slice (h1.next+1) 0 (i+1) (i+1) true]) 198)):=x2.Sc (.inr P.new.1) (by have:=c2.next;omega) _
   have hb2:=c2.hb hb1
   have hb3:HB (h2.put p (.cells (gL g++[EV.slice (h1.next+1) 0 (i+1) (i+1) true]) 198)):=hb2.put (by have:=c2.next;omega) _
   have old:∀ x o,h.get x=some o->(∀ l e sz,o ≠ .vec l e sz)->x ≠ p->(h2.put p (.cells (gL g++[EV.slice (h1.next+1) 0 (i+1) (i+1) true]) 198)).get x=some o:=by
    intro x o hx hno hxp
    rw[Di _ (Ne.symm hxp)]
    have hx1:=e1.at P.hb hx
    exact c2.at hb1 hx1 (nql _ _ hx1 hno)
   have hsl:h.next<h1.next:=by omega
   have P':Ae1 h0 (h2.put p (.cells (gL g++[EV.slice (h1.next+1) 0 (i+1) (i+1) true]) 198)) p (h1.next+1) (i+1) (fun d=>if d=i then h.next+1 else q d) (fun d=>if d=i then h.next else c d) g (.slice (h1.next+1) 0 (i+1) (i+1) true):=by
    refine⟨Es _ _ _,?_,?_,?_,?_,⟨P.new.1,fun _=>by omega,?_⟩,x3,hb3⟩
    ·have:(List.range (i+1)).map (fun d=>EV.ptr (if d=i then h.next+1 else q d) 0)=((List.range i).map fun d=>EV.ptr (q d) 0)++EV.cells (.ptr (h.next+1) 0):=by
      rw[List.range_succ,List.map_append]
      congr 1
      ·refine List.map_congr_left fun d hd=>?_
       rw[if_neg (by have:=List.mem_range.1 hd;omega)]
      ·simp[EV.cells]
     rw[this]
     refine row2.frame fun _=>Di _ ?_
     have:=row2.block (by omega)
     exact Hz gp2 this (by simp)
    ·intro d hd
     by_cases hdi:d=i
     ·subst hdi
      simp only[if_true]
      rw[Di _ (by omega)]
      exact c2.at hb1 gq (nql _ _ gq (by intros;simp))
     ·simp only[hdi,if_false]
      have:=P.que d (by omega)
      exact old _ _ this (by intros;simp) (Hz this P.Aem (by simp))
    ·intro d hd
     by_cases hdi:d=i
     ·subst hdi
      simp only[if_true]
      rw[Di _ (by omega)]
      exact c2.at hb1 gc (nql _ _ gc (by intros;simp))
     ·simp only[hdi,if_false]
      have:=P.chan d (by omega)
      exact old _ _ this (by intros;simp) (Hz this P.Aem (by simp))
    ·intro d e hd he hde
     have lc:=fun d (hd:d<i)=>P.hb _ _ (P.chan d hd)
     by_cases hdi:d=i <;> by_cases hei:e=i
     ·omega
     ·simp only[hdi,hei,if_true,if_false]at hde;have:=lc e (by omega);omega
     ·simp only[hdi,hei,if_true,if_false]at hde;have:=lc d (by omega);omega
     ·simp only[hdi,hei,if_false]at hde;exact P.inj d e (by omega) (by omega) hde
    ·intro d hd
     by_cases hdi:d=i
     ·subst hdi;simp only[if_true];omega
     ·simp only[hdi,if_false];exact P.new.2.2 d (by omega)
   exact ih (i+1) _ _ _ _ _ (by omega) (by omega) P'
  ·have:i=g.D.toNat:=by omega
   subst this
   simp only[hlt,decide_false,Aj,Qf]
   exact .ret ⟨rfl,P.ext,P.hb,ql,q,c,sl,P⟩
theorem Aad {g:Gm}(hr:rtB g=true)(hK:1000<K){h:Ac}(hb:HB h):Ok (Nd K (gV g) h) fun v h'=>∃ p ql q c,v=.tuple [.ptr p 0,I 0]/\Ext h h'/\HB h'/\Sn h' p ql g.D.toNat q c g (fun _=>[])/\h.next<=p/\h.next<=ql/\∀ d,d<g.D.toNat->h.next<=q d/\h.next<=c d:=by
 have s:=Afd hr
 have:=s.d0;have:=s.d1
 simp only[Nd,gV,Aj]
 have hg:(h.new (.cells (gL g) 23)).get h.next=some (.cells (gL g) 23):=As _ _
 have hn:h.next<(h.new (.cells (gL g) 23)).next:=Nat.lt_succ_self _
 have hx:Ext h (h.new (.cells (gL g) 23)):=Ed.new _ _
 generalize h.new (.cells (gL g) 23)=h1 at hg hn hx ⊢
 simp only[Ms hg rfl,B5 (show (gL g).length=6 from rfl),Aj]
 refine(Rw g h1).Bc ?_
 rintro _ h2 ⟨rfl,x2⟩
 rw[hr]
 have hg2:h2.get h.next=some (.cells (gL g) 23):=by rw[x2.get _ hn id];exact hg
 have hn2:h.next<h2.next:=Nat.lt_of_lt_of_le hn x2.next
 simp only[Aj,U5,Ms hg2 rfl,B5 (show (gL g).length=6 from rfl)]
 rw[F3 (l:=gL g++[.Ab]) rfl]
 simp only[Aj]
 have hb2:=(x2.hb (hx.hb hb))
 have hg3:(h2.new (.cells (gL g++[.Ab]) 198)).get h.next=some (.cells (gL g) 23):=by rw[Hm _ hn2];exact hg2
 have hp3:(h2.new (.cells (gL g++[.Ab]) 198)).get h2.next=some (.cells (gL g++[.Ab]) 198):=As _ _
 have x3:Ext h2 (h2.new (.cells (gL g++[.Ab]) 198)):=Ed.new _ _
 have hb3:HB (h2.new (.cells (gL g++[.Ab]) 198)):=hb2.new _
 have n3:h2.next<(h2.new (.cells (gL g++[.Ab]) 198)).next:=Nat.lt_succ_self _
 generalize h2.new (.cells (gL g++[.Ab]) 198)=h3 at hg3 hp3 x3 hb3 n3 ⊢
 simp only[D9 hg3 rfl,gL,Aj,I]
 refine(Y4 (K:=K) (p:=h2.next) s h2 hn2 hg2 K 0 0 (fun _=>0) (fun _=>0) .Ab h3 (by omega) (by omega) ⟨hp3,.nil _ _ _ _,fun d hd=>absurd hd (Nat.not_lt_zero _),fun d hd=>absurd hd (Nat.not_lt_zero _),fun d e hd=>absurd hd (Nat.not_lt_zero _),⟨Nat.le_refl _,fun x=>absurd x (Nat.lt_irrefl _),fun d hd=>absurd hd (Nat.not_lt_zero _)⟩,x3,hb3⟩).mono ?_
 rintro v h' ⟨rfl,x4,hb4,ql,q,c,sl,P⟩
 refine⟨h2.next,ql,q,c,rfl,hx.trans (x2.trans x4),hb4,?_⟩
 have hpos:0<g.D.toNat:=by omega
 have hsl:=P.row.slice hpos
 subst hsl
 have t:=hx.next
 have t2:=x2.next
 exact⟨⟨hpos,P.Aem,P.row.block hpos,P.que,P.chan,P.inj⟩,by omega,by have:=P.new.2.1 hpos;omega,fun d hd=>by have:=P.new.2.2 d hd;omega⟩
theorem Acm {g:Gm}(hr:rtB g=false)(h:Ac):Ok (Nd K (gV g) h) fun v h'=>v=.tuple [.Bj,I 20]/\Ext h h':=by
 simp only[Nd,gV,Aj]
 have hg:(h.new (.cells (gL g) 23)).get h.next=some (.cells (gL g) 23):=As _ _
 have hx:Ext h (h.new (.cells (gL g) 23)):=Ed.new _ _
 generalize h.new (.cells (gL g) 23)=h1 at hg hx ⊢
 simp only[Ms hg rfl,B5 (show (gL g).length=6 from rfl),Aj]
 refine(Rw g h1).Bc ?_
 rintro _ h2 ⟨rfl,x2⟩
 rw[hr]
 simp only[Aj]
 exact .ret ⟨rfl,hx.trans x2⟩
end Go.Ev

namespace Go.Ev
open Go.Proofs
set_option maxRecDepth 10000
variable {K:Nat}
theorem Xy(n a:Int)(h:Ac):Hv K (I n) (I a) h=some (.bool (wi n 1 a),h):=by
 simp only[Hv,I,A2,Aj]
 by_cases h1:1<=n
 ·simp only[h1,decide_true,Aj,A2,H7,wi,Bool.true_and]
 ·simp only[h1,decide_false,Aj,A2,H7,wi,Bool.false_and]
def Hj(size:Int):A9:=.cells [.Ab,I size,I 0,I 0,.bool false] 277
theorem Abp {size:Int}(h1:1<=size)(h2:size<=64)(h:Ac):Df K (I size) h=some (.tuple [.ptr h.next 0,I 0],h.new (Hj size)):=by
 have a:¬ size<1:=by omega
 have b:¬ 64<size:=by omega
 simp only[Df,I,A2,Aj,a,b,decide_false,E0,Hb]
 rw[F3 (l:=[.Ab,I size,I 0,I 0,.bool false]) rfl]
 simp only[Aj];rfl
structure Zn where
 l:List (List EV)
 safe:Nat
 st:Nat
 fin:Bool
def Zn.empty:Zn:=⟨[],0,0,false⟩
structure Au7(h:Ac)(z q:Nat)(size:Int)(Z:Zn):Prop where
 Ac5:∃ s,h.get z=some (.cells [s,I size,I Z.safe,I Z.st,.bool Z.fin] 277)/\Fv h s q 30 64 Z.l.length Z.l.flatten
 wf:∀ x ∈ Z.l,x.length=64
structure W6(h:Ac)(V zl n:Nat)(z q:Nat->Nat)(size op cnt:Int)(down:Bool)(Zs:Nat->Zn):Prop where
 pos:0<n
 dev:h.get V=some (.cells [.slice zl 0 n n true,I size,I op,I cnt,.bool down] 152)
 row:h.get zl=some (.vec ((List.range n).map fun i=>.ptr (z i) 0) 220 1)
 Ac5:∀ i,i<n->Au7 h (z i) (q i) size (Zs i)
 Asa:∀ i j,i<n->j<n->z i=z j->i=j
 Avz:∀ i j,i<n->j<n->(Zs i).l ≠ []->(Zs j).l ≠ []->q i=q j->i=j
structure Age(h0 h:Ac)(V zl i:Nat)(z:Nat->Nat)(size op:Int)(s:EV):Prop where
 dev:h.get V=some (.cells [s,I size,I op,I 0,.bool false] 152)
 row:Fv h s zl 220 1 i ((List.range i).map fun d=>.ptr (z d) 0)
 Ac5:∀ d,d<i->h.get (z d)=some (Hj size)
 Asa:∀ d e,d<i->e<i->z d=z e->d=e
 new:h0.next<=V/\(0<i->h0.next<=zl)/\∀ d,d<i->h0.next<=z d
 ext:Ext h0 h
 hb:HB h
theorem Za {size op:Int}{n:Nat}(hn:n<=512)(s0:1<=size)(s1:size<=64)(h0:Ac){V:Nat}:∀ (m i:Nat) (zl:Nat) (z:Nat->Nat) (sl:EV) (h:Ac),n-i<m->i<=n->Age h0 h V zl i z size op sl ->
 Ok (Fe K m (I size) (.ptr V 0) (I n) (I i) h) fun v h'=>v=.tuple [.ptr V 0,I 0]/\∃ zl z sl,Age h0 h' V zl n z size op sl:=by
 intro m
 induction m with
 | zero=>intro i _ _ _ _ hm;omega
 | succ m ih=>
  intro i zl z sl h hm hi P
  simp only[Fe,I,A2,Aj]
  by_cases hlt:(i:Int)<n
  ·simp only[hlt,decide_true,Aj,Vf]
   have hq:=Abp (K:=K) s0 s1 h
   simp only[I]at hq
   simp only[hq,Aj,A2,not_true_eq_false,decide_false,Vq]
   have e1:Ext h (h.new (Hj size)):=Ed.new _ _
   have hb1:HB (h.new (Hj size)):=P.hb.new _
   have gz:(h.new (Hj size)).get h.next=some (Hj size):=As _ _
   have n1:(h.new (Hj size)).next=h.next+1:=rfl
   generalize h.new (Hj size)=h1 at e1 hb1 gz n1 ⊢
   have gp:h1.get V=some (.cells [sl,I size,I op,I 0,.bool false] 152):=e1.at P.hb P.dev
   have row1:Fv h1 sl zl 220 1 i ((List.range i).map fun d=>.ptr (z d) 0):=P.row.frame fun hl=>e1.get _ (P.hb _ _ (P.row.block hl)) id
   have lp:=P.hb _ _ P.dev
   rw[D9 gp rfl]
   simp only[Aj]
   refine Yk (z:=[.Bj]) row1 hb1 rfl rfl rfl (by omega) (by omega) ?_
   intro h2 row2 n2 c2
   have n0:=P.ext.next
   have nql:∀ x o,h1.get x=some o->(∀ l e sz,o ≠ .vec l e sz)->¬ (0<i/\x=zl):=by
    rintro x o hx hno ⟨hl,rfl⟩
    rw[row1.block hl]at hx;cases hx;exact hno _ _ _ rfl
   have gp2:=c2.at hb1 gp (nql _ _ gp (by intros;simp))
   refine Ok.st1 gp2 rfl rfl (by show 0<5;decide) ?_
   simp only[V0,I,A2,List.set]
   rw[Ee (by omega) (by omega)]
   have x2:Ext h0 h2:=by
    refine(P.ext.trans e1).then c2 fun j hj hlt=>?_
    have:=(P.new.2.1 hj.1);omega
   have hb2:=c2.hb hb1
   have lp2:V<h2.next:=by have:=c2.next;omega
   have x3:=x2.Sc (.inr P.new.1) lp2 (.cells [EV.slice (h1.next+1) 0 (i+1) (i+1) true,I size,I op,I 0,.bool false] 152)
   have hb3:=hb2.put lp2 (.cells [EV.slice (h1.next+1) 0 (i+1) (i+1) true,I size,I op,I 0,.bool false] 152)
   have old:∀ x o,h1.get x=some o->(∀ l e sz,o ≠ .vec l e sz)->x ≠ V->(h2.put V (.cells [EV.slice (h1.next+1) 0 (i+1) (i+1) true,I size,I op,I 0,.bool false] 152)).get x=some o:=by
    intro x o hx1 hno hxp
    rw[Di _ (Ne.symm hxp)]
    exact c2.at hb1 hx1 (nql _ _ hx1 hno)
   have P':Age h0 (h2.put V (.cells [EV.slice (h1.next+1) 0 (i+1) (i+1) true,I size,I op,I 0,.bool false] 152)) V (h1.next+1) (i+1) (fun d=>if d=i then h.next else z d) size op (.slice (h1.next+1) 0 (i+1) (i+1) true):=by
    refine⟨Es _ _ _,?_,?_,?_,⟨P.new.1,fun _=>by omega,?_⟩,x3,hb3⟩
    ·have:(List.range (i+1)).map (fun d=>EV.ptr (if d=i then h.next else z d) 0)=((List.range i).map fun d=>EV.ptr (z d) 0)++EV.cells (.ptr h.next 0):=by
      rw[List.range_succ,List.map_append]
      congr 1
      ·refine List.map_congr_left fun d hd=>?_
       rw[if_neg (by have:=List.mem_range.1 hd;omega)]
      ·simp[EV.cells]
     rw[this]
     refine row2.frame fun _=>Di _ ?_
     have:=row2.block (by omega)
     exact Hz gp2 this (by simp)
    ·intro d hd
     by_cases hdi:d=i
     ·subst hdi
      simp only[if_true]
      exact old _ _ gz (by intros;simp[Hj]) (Hz gz gp (by simp[Hj]))
     ·simp only[hdi,if_false]
      have:=e1.at P.hb (P.Ac5 d (by omega))
      exact old _ _ this (by intros;simp[Hj]) (Hz this gp (by simp[Hj]))
    ·intro d e hd he hde
     have lc:=fun d (hd:d<i)=>P.hb _ _ (P.Ac5 d hd)
     by_cases hdi:d=i <;> by_cases hei:e=i
     ·omega
     ·simp only[hdi,hei,if_true,if_false]at hde;have:=lc e (by omega);omega
     ·simp only[hdi,hei,if_true,if_false]at hde;have:=lc d (by omega);omega
     ·simp only[hdi,hei,if_false]at hde;exact P.Asa d e (by omega) (by omega) hde
    ·intro d hd
     by_cases hdi:d=i
     ·subst hdi;simp only[if_true];omega
     ·simp only[hdi,if_false];exact P.new.2.2 d (by omega)
   exact ih (i+1) _ _ _ _ (by omega) (by omega) P'
  ·have:i=n:=by omega
   subst this
   simp only[hlt,decide_false,Aj,P1]
   exact .ret ⟨rfl,zl,z,sl,P⟩
def Qs(zones size op:Int):Bool:=wi zones 1 512 && wi op 1 64 && wi size 1 64
theorem Aam {zones size op:Int}(hr:Qs zones size op=true)(hK:1000<K){h:Ac}(hb:HB h):Ok (Tl K (I zones) (I size) (I op) h) fun v h'=>∃ V zl z,v=.tuple [.ptr V 0,I 0]/\Ext h h'/\HB h'/\W6 h' V zl zones.toNat z (fun _=>0) size op 0 false (fun _=>Zn.empty)/\h.next<=V/\h.next<=zl/\∀ d,d<zones.toNat->h.next<=z d:=by
 simp only[Qs,Bool.and_eq_true]at hr
 obtain⟨⟨r1,r2⟩,r3⟩:=hr
 obtain⟨a0,a1⟩:=Sp.1 r1
 obtain⟨c0,c1⟩:=Sp.1 r3
 have w:=fun n a=>Xy (K:=K) n a h
 simp only[I]at w
 simp only[Tl,I,w,r1,r2,Aj,A2,P9,Vd]
 rw[F3 (l:=[.Ab,I size,I op,I 0,.bool false]) rfl]
 simp only[Aj]
 have P:Age h (h.new (.cells [.Ab,I size,I op,I 0,.bool false] 152)) h.next 0 0 (fun _=>0) size op .Ab:=
  ⟨As _ _,.nil _ _ _ _,fun d hd=>absurd hd (Nat.not_lt_zero _),fun d e hd=>absurd hd (Nat.not_lt_zero _),⟨Nat.le_refl _,fun x=>absurd x (Nat.lt_irrefl _),fun d hd=>absurd hd (Nat.not_lt_zero _)⟩,Ed.new _ _,hb.new _⟩
 have:=Za (K:=K) (n:=zones.toNat) (by omega) c0 c1 h K 0 0 (fun _=>0) .Ab _ (by omega) (by omega) P
 rw[Int.toNat_of_nonneg (by omega)]at this
 refine this.mono ?_
 rintro v h' ⟨rfl,zl,z,sl,P⟩
 have hpos:0<zones.toNat:=by omega
 have hsl:=P.row.slice hpos
 subst hsl
 exact⟨h.next,zl,z,rfl,P.ext,P.hb,⟨hpos,P.dev,P.row.block hpos,fun i hi=>⟨⟨_,P.Ac5 i hi,.nil _ _ _ _⟩,fun x hx=>by cases hx⟩,P.Asa,fun i j _ _ a=>absurd rfl a⟩,Nat.le_refl _,P.new.2.1 hpos,P.new.2.2⟩
structure L6(h:Ac)(D V M zl n:Nat)(z q:Nat->Nat)(size op cnt:Int)(down:Bool)(coming happened:EV)(marks:List (EV × EV))(Zs:Nat->Zn):Prop where
 Aj3:h.get D=some (.cells [.ptr V 0,coming,happened,.map M] 149)
 marks:h.get M=some (.map marks)
 dev:W6 h V zl n z q size op cnt down Zs
theorem W6.ext {h h':Ac}{V zl n:Nat}{z q:Nat->Nat}{size op cnt:Int}{down:Bool}{Zs:Nat->Zn}(d:W6 h V zl n z q size op cnt down Zs)(g:∀ i o,h.get i=some o->h'.get i=some o):W6 h' V zl n z q size op cnt down Zs:=by
 refine⟨d.pos,g _ _ d.dev,g _ _ d.row,fun i hi=>?_,d.Asa,d.Avz⟩
 obtain⟨s,a,b⟩:=(d.Ac5 i hi).Ac5
 exact⟨⟨s,g _ _ a,b.frame fun hl=>by rw[g _ _ (b.block hl),b.block hl]⟩,(d.Ac5 i hi).wf⟩
theorem Sn.ext {h h':Ac}{p ql n:Nat}{q c:Nat->Nat}{g:Gm}{ps:Nat->List Int}(d:Sn h p ql n q c g ps)(e:∀ i o,h.get i=some o->h'.get i=some o):Sn h' p ql n q c g ps:=
 ⟨d.pos,e _ _ d.Aem,e _ _ d.row,fun i hi=>e _ _ (d.que i hi),fun i hi=>e _ _ (d.chan i hi),d.inj⟩
theorem L6.ext {h h':Ac}{D V M zl n:Nat}{z q:Nat->Nat}{size op cnt:Int}{down:Bool}{coming happened:EV}{marks:List (EV × EV)}{Zs:Nat->Zn}(d:L6 h D V M zl n z q size op cnt down coming happened marks Zs)(e:∀ i o,h.get i=some o->h'.get i=some o):
 L6 h' D V M zl n z q size op cnt down coming happened marks Zs:=⟨e _ _ d.Aj3,e _ _ d.marks,d.dev.ext e⟩
theorem Aai {zones size op:Int}(hr:Qs zones size op=true)(hK:1000<K){h:Ac}(hb:HB h):Ok (S6 K (I zones) (I size) (I op) h) fun v h'=>∃ D V M zl z,v=.tuple [.ptr D 0,I 0]/\Ext h h'/\HB h'/\L6 h' D V M zl zones.toNat z (fun _=>0) size op 0 false .Ab .Ab [] (fun _=>Zn.empty)/\(h.next<=D/\h.next<=M)/\h.next<=V/\h.next<=zl/\∀ d,d<zones.toNat->h.next<=z d:=by
 simp only[S6]
 refine(Aam (K:=K) hr hK hb).Bc ?_
 rintro _ h1 ⟨V,zl,z,rfl,x1,hb1,d1,nw⟩
 simp only[Aj,A2,I,not_true_eq_false,decide_false,V1]
 rw[show Tm h1=some (.map h1.next,h1.new (.map [])) from rfl,Cc,F3 (l:=[.ptr V 0,.Ab,.Ab,.map h1.next]) rfl]
 simp only[Aj]
 have x2:Ext h1 ((h1.new (.map [])).new (.cells [.ptr V 0,.Ab,.Ab,.map h1.next] 149)):=(Ed.new _ _).Abo _
 refine .ret ⟨(h1.new (.map [])).next,V,h1.next,zl,z,rfl,x1.trans x2,(hb1.new _).new _,⟨As _ _,?_,d1.ext fun i o g=>x2.at hb1 g⟩,⟨by have:=x1.next;show h.next<=h1.next+1;omega,x1.next⟩,nw⟩
 rw[Hm _ (Nat.lt_succ_self _)];exact As _ _
end Go.Ev

namespace Go.Ev
open Go.Proofs
set_option maxRecDepth 10000
variable {K:Nat}
theorem Aa0 {h:Ac}{q c cap:Nat}{buf:List EV}(hq:h.get q=some (.cells [.chan c] 266))(hc:h.get c=some (.chan cap buf)):Cq K (.ptr q 0) h=some (I buf.length,h):=by
 simp only[Cq,Aj,D9 hq rfl]
 have:Abx (.chan c) h=some (I buf.length,h):=by
  show (match h.get c with|some (.chan _ buf)=>some (EV.int .i64 (.ofNat (len buf)),h)|_=>none)=_
  rw[hc];simp only;rw[J9];rfl
 rw[this];rfl
section
variable {h:Ac}{p ql n:Nat}{q c:Nat->Nat}{g:Gm}{ps:Nat->List Int}(P:Sn h p ql n q c g ps)
include P
theorem Sn.len {d:Nat}(hd:d<n):Cq K (.ptr (q d) 0) h=some (I (ps d).length,h):=by
 rw[Aa0 (P.que d hd) (P.chan d hd),List.length_map]
end
end Go.Ev

namespace Go.Ev
open Go.Proofs
set_option maxRecDepth 100000
variable {K:Nat}
def Aqv(D:Nat)(g:Gm)(p bl n:Nat)(a b u:Int):List EV:=[.ptr D 0]++gL g++Bl++[.ptr p 0,.slice bl 0 n n false,I a,I b,I u]
theorem Ao9:Bl.length=256:=by kernel_rfl
section
variable (D:Nat)(g:Gm)(p bl n:Nat)(a b u:Int)
end
theorem Ahw {h:Ac}{i t n:Nat}{l:List EV}(hg:h.get i=some (.cells l t))(hs:TT.size t=some n)(ha:TT.agg t=some true)(hl:l.length=n):Sl TT [.c (.ptr i 0) t] h=some (.agg l,h):=by
 have hr:Em h i 0 n=some l:=by
  unfold Em;rw[hg];simp only;rw[<-Nx];exact B5 hl
 unfold Sl
 simp only[Afn,hs,hr,ha]
structure Ata(h:Ac)(m D p bl n:Nat)(g:Gm)(a b u:Int)(bad:Nat->Int):Prop where
 mir:h.get m=some (.cells (Aqv D g p bl n a b u) 132)
 Av4:h.get bl=some (.cells ((List.range n).map fun z=>I (bad z)) 3)
section
variable {h:Ac}{m D p bl n:Nat}{g:Gm}{a b u:Int}{bad:Nat->Int}(M:Ata h m D p bl n g a b u bad)
include M
end
section
variable {h:Ac}{D V M zl n:Nat}{z q:Nat->Nat}{size op cnt:Int}{down:Bool}{coming happened:EV}{marks:List (EV × EV)}{Zs:Nat->Zn}
theorem Ow(d:L6 h D V M zl n z q size op cnt down coming happened marks Zs):B3 K (.ptr D 0) h=some (.ptr V 0,h):=by simp only[B3,Aj,D9 d.Aj3 rfl]
theorem Aah(d:W6 h V zl n z q size op cnt down Zs):F7 K (.ptr V 0) h=some (I n,h):=by simp only[F7,Aj,D9 d.dev rfl,I]
theorem Adp(d:W6 h V zl n z q size op cnt down Zs):Gy K (.ptr V 0) h=some (I size,h):=by simp only[Gy,Aj,D9 d.dev rfl]
end
theorem Avi(v:EV):∀ n,rep [v] n=List.replicate n v
 | 0=>rfl
 | n+1=>by show [v]++rep [v] n=_;rw[Avi v n];rfl
theorem Adf(v:EV)(n:Nat):(List.range n).map (fun _=>v)=List.replicate n v:=by
 rw[List.map_const',List.length_range]
theorem Y5 {g:Gm}(hK:1000<K){h:Ac}(hb:HB h){D V M zl n:Nat}{z q:Nat->Nat}{size op cnt:Int}{down:Bool}{coming happened:EV}{marks:List (EV × EV)}{Zs:Nat->Zn}(dr:L6 h D V M zl n z q size op cnt down coming happened marks Zs):
 Ok (No K (.ptr D 0) (gV g) Aaf h) fun v h'=>Ext h h'/\HB h'/\if rtB g=true/\g.D*g.Z=n/\g.S=size then
  ∃ m p bl ql q c,v=.tuple [.ptr m 0,I 0]/\Ata h' m D p bl n g (-1) (-1) 0 (fun _=>0)/\Sn h' p ql g.D.toNat q c g (fun _=>[])/\(h.next<=m/\h.next<=bl)/\h.next<=p/\h.next<=ql/\∀ d,d<g.D.toNat->h.next<=q d/\h.next<=c d else v=.tuple [.Bj,I 20]:=by
 have hcv:Fs 119 Aaf (h.new (.cells (gL g) 23))=fun(k:EV->Ac->R)=>k (.ptr (h.next+1) 0) ((h.new (.cells (gL g) 23)).new (.cells Bl 119)):=rfl
 simp only[No,gV,Aj,hcv]
 have g4:((h.new (.cells (gL g) 23)).new (.cells Bl 119)).get h.next=some (.cells (gL g) 23):=by rw[Hm _ (Nat.lt_succ_self _)];exact As _ _
 have g5:((h.new (.cells (gL g) 23)).new (.cells Bl 119)).get (h.next+1)=some (.cells Bl 119):=As _ _
 have x1:Ext h ((h.new (.cells (gL g) 23)).new (.cells Bl 119)):=(Ed.new _ _).Abo _
 have n1:((h.new (.cells (gL g) 23)).new (.cells Bl 119)).next=h.next+2:=rfl
 generalize (h.new (.cells (gL g) 23)).new (.cells Bl 119)=h1 at g4 g5 x1 n1 ⊢
 have hb1:=x1.hb hb
 simp only[Ms g4 rfl,B5 (show (gL g).length=6 from rfl),Aj]
 cases hr:rtB g with
 | false=>
  refine(Acm hr h1).Bc ?_
  rintro _ h2 ⟨rfl,x2⟩
  simp only[Aj,I,A2,show ¬ ((20:Int)=0) by decide,not_false_eq_true,decide_true,Jc,F4]
  exact .ret ⟨x1.trans x2,x2.hb hb1,rfl⟩
 | true=>
  have s:=Afd hr
  have:=s.d0;have:=s.d1;have:=s.z0;have:=s.z1
  obtain⟨m0,m1⟩:=Xz (a:=g.D) (b:=g.Z) (A:=8) (B:=64) (by omega) (by omega) (by omega) (by omega)
  refine(Aad hr hK hb1).Bc ?_
  rintro _ h2 ⟨p,ql,qq,c,rfl,x2,hb2,P,nw⟩
  have k2:∀ i o,h.get i=some o->h2.get i=some o:=fun i o g=>x2.at hb1 (x1.at hb g)
  have l4:h.next<h2.next:=by have:=x2.next;omega
  have l5:h.next+1<h2.next:=by have:=x2.next;omega
  have g42:=x2.at hb1 g4
  have g52:=x2.at hb1 g5
  simp only[Aj,I,A2,not_true_eq_false,decide_false]
  refine Ok.C0 (by kernel_rfl) (by kernel_rfl) (P:=fun v h3=>v=.ptr V 0/\Ext h2.lift h3) ⟨_,_,Ow ((dr.ext k2).ext fun i o g=>by rw[Il];exact g),rfl,Ed.refl _⟩ (fun _ _ p=>p.2) ?_
  rintro _ _ h3 ⟨rfl,_⟩ _ x3
  have hb3:=x3.hb hb2
  have k3:∀ i o,h.get i=some o->h3.get i=some o:=fun i o g=>x3.at hb2 (k2 i o g)
  refine Ok.C0 (by kernel_rfl) (by kernel_rfl) (P:=fun v h4=>v=I n/\Ext h3.lift h4) ⟨_,_,Aah ((dr.dev.ext k3).ext fun i o g=>by rw[Il];exact g),rfl,Ed.refl _⟩ (fun _ _ p=>p.2) ?_
  rintro _ _ h4 ⟨rfl,_⟩ _ x4
  have hb4:=x4.hb hb3
  have k4:∀ i o,h.get i=some o->h4.get i=some o:=fun i o g=>x4.at hb3 (k3 i o g)
  have x24:Ext h2 h4:=x3.trans x4
  have g44:=x24.at hb2 g42
  simp only[Aj,Ff,Cw l4,Ms g44 rfl,B5 (show (gL g).length=6 from rfl)]
  refine Ok.C0 (by kernel_rfl) (by kernel_rfl) (P:=fun v h5=>v=I (g.D*g.Z)/\Ext h4.lift h5) ⟨_,_,Py s _,rfl,Ed.new _ _⟩ (fun _ _ p=>p.2) ?_
  rintro _ _ h5 ⟨rfl,_⟩ _ x5
  have hb5:=x5.hb hb4
  have k5:∀ i o,h.get i=some o->h5.get i=some o:=fun i o g=>x5.at hb4 (k4 i o g)
  simp only[I,A2,Jc]
  have x25:Ext h2 h5:=x24.trans x5
  by_cases hn:(n:Int)=g.D*g.Z
  ·simp only[hn,not_true_eq_false,decide_false,Aj,A2]
   refine Ok.C0 (by kernel_rfl) (by kernel_rfl) (P:=fun v h6=>v=.ptr V 0/\Ext h5.lift h6) ⟨_,_,Ow ((dr.ext k5).ext fun i o g=>by rw[Il];exact g),rfl,Ed.refl _⟩ (fun _ _ p=>p.2) ?_
   rintro _ _ h6 ⟨rfl,_⟩ _ x6
   have hb6:=x6.hb hb5
   have k6:∀ i o,h.get i=some o->h6.get i=some o:=fun i o g=>x6.at hb5 (k5 i o g)
   refine Ok.C0 (by kernel_rfl) (by kernel_rfl) (P:=fun v h7=>v=I size/\Ext h6.lift h7) ⟨_,_,Adp ((dr.dev.ext k6).ext fun i o g=>by rw[Il];exact g),rfl,Ed.refl _⟩ (fun _ _ p=>p.2) ?_
   rintro _ _ h7 ⟨rfl,_⟩ _ x7
   have hb7:=x7.hb hb6
   have x27:Ext h2 h7:=x25.trans (x6.trans x7)
   have g47:=x27.at hb2 g42
   simp only[Aj,Ff,Cw l4,D9 g47 rfl,gL,I,A2]
   by_cases hs:size=g.S
   ·subst hs
    simp only[not_true_eq_false,decide_false,F4,Rt,Aj]
    have g57:=x27.at hb2 g52
    have l47:h.next<h7.next:=Nat.lt_of_lt_of_le l4 x27.next
    have l57:h.next+1<h7.next:=Nat.lt_of_lt_of_le l5 x27.next
    simp only[Aj,Ff,Cw l47,Cw l57,Ms g47 rfl,Ms g57 rfl,B5 (show (gL g).length=6 from rfl),B5 Ao9]
    refine Ok.C0 (by kernel_rfl) (by kernel_rfl) (P:=fun v h8=>v=I (g.D*g.Z)/\Ext h7.lift h8) ⟨_,_,Py s _,rfl,Ed.new _ _⟩ (fun _ _ p=>p.2) ?_
    rintro _ _ h8 ⟨rfl,_⟩ _ x8
    have hb8:=x8.hb hb7
    have x28:Ext h2 h8:=x27.trans x8
    simp only[Aj,Ff,I]
    rw[<-hn]
    have hmk:I2 [.int .i64 0] 3 (.int .i64 (n:Int)) (.int .i64 (n:Int)) h8=some (.slice h8.next 0 n n false,h8.new (.cells (rep [.int .i64 0] n) 3)):=by
     show Al (Nat.ble n n) (Al (Nat.ble n 65536) _ none) none=_
     rw[Nat.ble_eq_true_of_le (Nat.le_refl n),Ak,Nat.ble_eq_true_of_le (by omega),Ak]
    rw[hmk,Cc,F3 (l:=Aqv D g p h8.next n (-1) (-1) 0) (by kernel_rfl)]
    simp only[Aj,Ff]
    have x8':Ext h8 ((h8.new (.cells (rep [.int .i64 0] n) 3)).new (.cells (Aqv D g p h8.next n (-1) (-1) 0) 132)):=(Ed.new _ _).Abo _
    have hx:Ext h ((h8.new (.cells (rep [.int .i64 0] n) 3)).new (.cells (Aqv D g p h8.next n (-1) (-1) 0) 132)):=(x1.trans x2).trans (x28.trans x8')
    refine .ret ⟨hx,hx.hb hb,?_⟩
    rw[if_pos (by first|exact⟨rfl,hn.symm,rfl⟩|simp[hn]|simp)]
    refine⟨h8.next+1,p,h8.next,ql,qq,c,rfl,⟨As _ _,?_⟩,P.ext fun i o g=>Ext.at (x28.trans x8') hb2 g,?_⟩
    ·rw[Hm _ (Nat.lt_succ_self _),As,Avi,Adf]
    ·have t1:=x1.next
     have t2:=x2.next
     have t3:=x28.next
     exact⟨⟨by omega,by omega⟩,by omega,by omega,fun d hd=>by have:=nw.2.2 d hd;omega⟩
   ·have hs':¬ size=g.S:=hs
    simp only[hs',not_false_eq_true,decide_true,F4,Aj]
    have hx:Ext h h7:=(x1.trans x2).trans x27
    refine .ret ⟨hx,hx.hb hb,?_⟩
    rw[if_neg (fun x=>hs' x.2.2.symm)]
  ·simp only[hn,not_false_eq_true,decide_true,Aj,A2,F4]
   have hx:Ext h h5:=(x1.trans x2).trans x25
   refine .ret ⟨hx,hx.hb hb,?_⟩
   rw[if_neg (fun x=>hn x.2.1.symm)]
end Go.Ev
