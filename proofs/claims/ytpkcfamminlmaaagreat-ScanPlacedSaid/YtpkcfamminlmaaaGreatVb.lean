import Derived.Test.YtpkcfamminlmaaaGreatVa
import Derived.Test.YtpkcfamminlmaaaGreatXb
set_option linter.unusedVariables false
set_option linter.unusedSimpArgs false
set_option linter.unusedSectionVars false
namespace Go.Ev
open Go.Proofs
set_option maxRecDepth 100000
variable {K:Nat}{disp:Nat->Option FT}
end Go.Ev

namespace Go.Ev
open Go.Proofs
set_option maxRecDepth 100000
variable {K:Nat}{disp:Nat->Option FT}
section
variable (A:Aq disp)(hK:10000<K){d:Nat}(hd:20<=d){h:Aa}{m b3 b4:Nat}{S:Mi}{F:Nat->Prop}(M:Fc h m S F)(hb:HB h)(x:Me)
include A hK hd M hb
end
section
variable (A:Aq disp)(hK:10000<K){d:Nat}(hd:20<=d){h:Aa}{m b3 b4 b7:Nat}{S:Mi}{F:Nat->Prop}(M:Fc h m S F)(hb:HB h)(x:Me)
include A hK hd M hb
end
end Go.Ev

namespace Go.Ev
open Go.Proofs
set_option maxRecDepth 100000
variable {K:Nat}{disp:Nat->Option FT}
theorem Bpm:TT.size 33=some 5/\TT.agg 33=some true:=⟨by kernel_rfl,by kernel_rfl⟩
theorem A3p:TT.size 42=some 20/\TT.agg 42=some true:=⟨by kernel_rfl,by kernel_rfl⟩
theorem A07 {h0:Aa}{b6 b7 n:Nat}{size op:Int}(l6:h0.next<=b6)(l67:b6<b7)(hn:n<=1000):∀ (m i:Nat) (h:Aa) (s:EV) (q:Nat) (l:List EV),n-i<m->i<=n->HB h->Ext h0 h->h.get b6=some (.cells [.Af,.int .i64 0,.int .i64 0,.int .i64 0,.bool false] 33) ->
 h.get b7=some (.cells [s,I size,I op,.int .i64 0,.bool false] 33)->Bu h s q 215 4 i l->(0<i->b7<q) ->
 Ok (D2 K m (I n) (.ptr b6 0) (.ptr b7 0) (.int .i64 (i:Int)) h) fun v h'=>∃ s,v=.agg [s,I size,I op,I 0,.bool false]/\Ext h0 h'/\HB h':=by
 intro m
 induction m with
 | zero=>intro i h s q l hm;omega
 | succ m ih=>
  intro i h s q l hm hi hb x g6 g7 r hq
  have l7:=hb _ _ g7
  simp only[D2,I,Ai]
  by_cases hlt:(i:Int)<n
  ·simp only[hlt,decide_true,Ab,S2,Ck g7 rfl]
   rw[B6 (l:=[.Af,.int .i64 0,.int .i64 0,.bool false]) rfl]
   refine Of (z:=[.Af,.int .i64 0,.int .i64 0,.bool false]) r hb rfl rfl rfl (by omega) (by omega) ?_
   intro h2 r2 n2 c2
   have nq:∀ {j o},h.get j=some o->(∀ l,o ≠ .vec l 215 4)->¬ (0<i/\j=q):=fun gj ho y=>by
    have:=r.block y.1
    rw[y.2,this]at gj;cases gj;exact ho _ rfl
   have hb2:=c2.hb hb
   have x2:Ext h0 h2:=x.then c2 fun j hj hl=>by
    have:=hq hj.1;omega
   have g62:=c2.at hb g6 (nq g6 (by intros;simp))
   have g72:=c2.at hb g7 (nq g7 (by intros;simp))
   have l72:=hb2 _ _ g72
   try simp only[Ab]
   refine Ok.st1 g72 rfl rfl (by show 0<5;decide) ?_
   simp only[List.set,S4,Ai]
   rw[C8 (by omega) (by omega)]
   have hs:(EV.slice (h.next+1) 0 (i+1) (i+1) true)=.slice (h.next+1) 0 (i+1) (i+1) true:=rfl
   refine ih (i+1) _ _ (h.next+1) _ (by omega) (by omega) (hb2.put l72 _) (x2.A5 (.inr (by omega)) l72 _) ?_ (Aj _ _ _) (r2.frame fun _=>As _ ?_) (fun _=>by omega)
   ·rw[As _ (by omega)];exact g62
   ·omega
  ·simp only[hlt,decide_false,Ab,Nj]
   rw[Fy g7 rfl,A3 (n:=5) rfl]
   try simp only[Ab]
   have l6':=hb _ _ g6
   refine Ok.st [s,I size,I op,.int .i64 0,.bool false] g6 rfl rfl (Cb rfl) ?_
   rw[Xk (Aj _ _ _) Bpm.1 Bpm.2 rfl]
   exact .ret ⟨s,rfl,x.A5 (.inr l6) l6' _,hb.put l6' _⟩
theorem Avc {n:Nat}{size op:Int}(hn:n<=1000)(hK:2000<K){h:Aa}(hb:HB h):Ok (Ma K (I n) (I size) (I op) h) fun v h'=>∃ s,v=.agg [s,I size,I op,I 0,.bool false]/\Ext h h'/\HB h':=by
 simp only[Ma,Ab]
 rw[B6 (l:=[.Af,I size,I op,.int .i64 0,.bool false]) rfl]
 refine Ok.st [.Af,I size,I op,.int .i64 0,.bool false] (Ag _ _) rfl rfl (Cb rfl) ?_
 have g6:((h.new (.cells [.Af,.int .i64 0,.int .i64 0,.int .i64 0,.bool false] 33)).new (.cells [.Af,.int .i64 0,.int .i64 0,.int .i64 0,.bool false] 33)).get h.next=some (.cells [.Af,.int .i64 0,.int .i64 0,.int .i64 0,.bool false] 33):=by
  rw[Bd _ (Nat.lt_succ_self _)];exact Ag _ _
 have x1:Ext h ((h.new (.cells [.Af,.int .i64 0,.int .i64 0,.int .i64 0,.bool false] 33)).new (.cells [.Af,.int .i64 0,.int .i64 0,.int .i64 0,.bool false] 33)):=(A9.new _ _).Fp _
 have n1:((h.new (.cells [.Af,.int .i64 0,.int .i64 0,.int .i64 0,.bool false] 33)).new (.cells [.Af,.int .i64 0,.int .i64 0,.int .i64 0,.bool false] 33)).next=h.next+2:=rfl
 rw[show (h.new (.cells [.Af,.int .i64 0,.int .i64 0,.int .i64 0,.bool false] 33)).next=h.next+1 from rfl]
 generalize (h.new (.cells [.Af,.int .i64 0,.int .i64 0,.int .i64 0,.bool false] 33)).new (.cells [.Af,.int .i64 0,.int .i64 0,.int .i64 0,.bool false] 33)=h1 at g6 x1 n1 ⊢
 have l7:h.next+1<h1.next:=by omega
 refine A07 (h0:=h) (b6:=h.next) (b7:=h.next+1) (n:=n) (size:=size) (op:=op) (Nat.le_refl _) (by omega) hn K 0 _ .Af 0 [] (by omega) (by omega) ((x1.hb hb).put l7 _) (x1.A5 (.inr (by omega)) l7 _) ?_ (Aj _ _ _) (.nil _ _ _ _) (fun y=>absurd y (Nat.lt_irrefl _))
 rw[As _ (by omega)];exact g6
def Ale(s:EV)(size op:Int)(g:Gm):List EV:=[s,I size,I op,I 0,.bool false,.Af,.Af]++gL g++[I g.D,I g.Z,.Af,.Af,I (-1),I (-1),I 0]
theorem At6 {s:EV}{size op:Int}{g:Gm}{h:Aa}(hb:HB h):Ok (Mf K (.agg [s,I size,I op,I 0,.bool false,.Af,.Af]) (gV g) h) fun v h'=>v=.agg (Ale s size op g)/\Ext h h'/\HB h':=by
 simp only[Mf,gV,Ab]
 rw[show (h.new (.cells [s,I size,I op,I 0,.bool false,.Af,.Af] 36)).next=h.next+1 from rfl]
 rw[show ((h.new (.cells [s,I size,I op,I 0,.bool false,.Af,.Af] 36)).new (.cells (gL g) 37)).next=h.next+2 from rfl]
 generalize hz:([EV.Af]++List.replicate 3 (EV.int .i64 0)++[EV.bool false]++List.replicate 2 EV.Af++List.replicate 8 (EV.int .i64 0)++List.replicate 2 EV.Af++List.replicate 3 (EV.int .i64 0))=z20
 have x1:Ext h (((h.new (.cells [s,I size,I op,I 0,.bool false,.Af,.Af] 36)).new (.cells (gL g) 37)).new (.cells z20 42)):=((A9.new _ _).Fp _).Fp _
 have g2:(((h.new (.cells [s,I size,I op,I 0,.bool false,.Af,.Af] 36)).new (.cells (gL g) 37)).new (.cells z20 42)).get h.next=some (.cells [s,I size,I op,I 0,.bool false,.Af,.Af] 36):=by
  rw[Bd _ (by show h.next<h.next+1+1;omega),Bd _ (Nat.lt_succ_self _)];exact Ag _ _
 have g3:(((h.new (.cells [s,I size,I op,I 0,.bool false,.Af,.Af] 36)).new (.cells (gL g) 37)).new (.cells z20 42)).get (h.next+1)=some (.cells (gL g) 37):=by
  rw[Bd _ (by show h.next+1<h.next+1+1;omega)];exact Ag _ _
 have g4:(((h.new (.cells [s,I size,I op,I 0,.bool false,.Af,.Af] 36)).new (.cells (gL g) 37)).new (.cells z20 42)).get (h.next+2)=some (.cells z20 42):=Ag _ _
 generalize ((h.new (.cells [s,I size,I op,I 0,.bool false,.Af,.Af] 36)).new (.cells (gL g) 37)).new (.cells z20 42)=h1 at x1 g2 g3 g4 ⊢
 have hb1:=x1.hb hb
 rw[Fy g2 rfl,A3 (n:=7) rfl]
 try simp only[Ab]
 rw[Fy g3 rfl,A3 (n:=6) rfl]
 simp only[Ck g3 rfl,gL,Ab,I]
 rw[B6 (l:=[.int .i64 g.D,.int .i64 g.Z,.Af]) rfl]
 subst hz
 rw[B6 (l:=Ale s size op g) rfl]
 have l4:=hb1 _ _ g4
 refine Ok.st (Ale s size op g) g4 rfl rfl (Cb rfl) ?_
 rw[Xk (Aj _ _ _) A3p.1 A3p.2 rfl]
 exact .ret ⟨rfl,x1.A5 (.inr (by omega)) l4 _,hb1.put l4 _⟩
theorem Aws {h:Aa}{i t n:Nat}{l:List EV}{v w:EV}(hg:h.get i=some (.cells l t))(hs:TT.size t=some n)(ha:TT.agg t=some true)(hl:l.length=n):Ct TT [.v v,.c (.ptr i 0) t,.v w] h=some (.tuple [v,.agg l,w],h):=by
 have hr:Hh h i 0 n=some l:=by
  unfold Hh;rw[hg];simp only;rw[<-T7];exact A3 hl
 unfold Ct
 simp only[Ao8,hs,hr,ha]
noncomputable def K4.new(n size:Nat)(op:Int):K4:=⟨⟨n,size,op,0,false,fun _=>Zn.empty⟩,[],[]⟩
noncomputable def Mi.new(g:Gm):Mi:=⟨g,K4.new (g.D*g.Z).toNat g.S.toNat g.O,fun _=>[],fun _=>0,-1,-1,0⟩
theorem Bca {g:Gm}(s:Sm g){h0 h:Aa}(hb:HB h){D V M zl m p bl ql:Nat}{z q c:Nat->Nat}(d:Zl h D V M zl (g.D*g.Z).toNat z (fun _=>0) g.S g.O 0 false .Af .Af [] (fun _=>Zn.empty))
 (nd:(h0.next<=D/\h0.next<=M)/\h0.next<=V/\h0.next<=zl/\∀ d,d<(g.D*g.Z).toNat->h0.next<=z d) (MA:V3 h m D p bl (g.D*g.Z).toNat g (-1) (-1) 0 (fun _=>0)) (PA:Ei h p ql g.D.toNat q c g (fun _=>[]))
 (nm:(h0.next<=m/\h0.next<=bl)/\h0.next<=p/\h0.next<=ql/\∀ d,d<g.D.toNat->h0.next<=q d/\h0.next<=c d) (le:h0.next<=h.next):Fc h m (Mi.new g) (fun i=>i<h0.next):=by
 have:=s.d0;have:=s.d1;have:=s.z0;have:=s.z1;have:=s.s0;have:=s.s1
 obtain⟨m0,m1⟩:=X2 (a:=g.D) (b:=g.Z) (A:=8) (B:=64) (by omega) (by omega) (by omega) (by omega)
 have hdev:=d.dev
 have hzone:∀ i,i<(g.D*g.Z).toNat->∃ s,h.get (z i)=some (.cells [s,I g.S,I 0,I 0,.bool false] 240):=fun i hi=>by
  obtain⟨s,a,_⟩:=(hdev.A7 i hi).A7;exact⟨s,a⟩
 have hF:∀ i,Ar1 V zl (g.D*g.Z).toNat z (fun _=>0) (fun _=>Zn.empty) i->i=V\/i=zl\/∃ d,d<(g.D*g.Z).toNat/\i=z d:=fun i hi=>by
  rcases hi with y|y|⟨d,hd,y|y⟩
  ·exact .inl y
  ·exact .inr (.inl y)
  ·exact .inr (.inr ⟨d,hd,y⟩)
  ·exact absurd rfl y.1
 have kind:∀ i o,h.get i=some o->(∀ l,o ≠ .cells l 183)->(∀ l,o ≠ .vec l 180 1)->(∀ l,o ≠ .cells l 240)->¬ Ar1 V zl (g.D*g.Z).toNat z (fun _=>0) (fun _=>Zn.empty) i:=fun i o g1 h1 h2 h3 hi=>by
  rcases hF i hi with y|y|⟨d,hd,y⟩
  ·subst y;rw[hdev.dev]at g1;cases g1;exact h1 _ rfl
  ·subst y;rw[hdev.row]at g1;cases g1;exact h2 _ rfl
  ·subst y
   obtain⟨s,hs⟩:=hzone d hd
   rw[hs]at g1;cases g1;exact h3 _ rfl
 have kindG:∀ i o,h.get i=some o->(∀ l,o ≠ .cells l 183)->(∀ l,o ≠ .vec l 180 1)->(∀ l,o ≠ .cells l 240)->(∀ l,o ≠ .cells l 166)->(∀ l,o ≠ .map l)->¬ (i=D\/i=M\/Ar1 V zl (g.D*g.Z).toNat z (fun _=>0) (fun _=>Zn.empty) i):=fun i o g1 h1 h2 h3 h4 h5 hi=>by
  rcases hi with y|y|y
  ·subst y;rw[d.D6]at g1;cases g1;exact h4 _ rfl
  ·subst y;rw[d.marks]at g1;cases g1;exact h5 _ rfl
  ·exact kind i o g1 h1 h2 h3 y
 have lowF:∀ i,Ar1 V zl (g.D*g.Z).toNat z (fun _=>0) (fun _=>Zn.empty) i->i<h.next/\h0.next<=i:=fun i hi=>by
  rcases hF i hi with y|y|⟨d,hd,y⟩
  ·subst y;exact⟨hb _ _ hdev.dev,nd.2.1⟩
  ·subst y;exact⟨hb _ _ hdev.row,nd.2.2.1⟩
  ·subst y
   obtain⟨s,hs⟩:=hzone d hd
   exact⟨hb _ _ hs,nd.2.2.2 d hd⟩
 have hS:g.S=((g.S.toNat:Nat):Int):=by omega
 have drvS:Fe h D (K4.new (g.D*g.Z).toNat g.S.toNat g.O) (fun i=>i=D\/i=M\/Ar1 V zl (g.D*g.Z).toNat z (fun _=>0) (fun _=>Zn.empty) i):=by
  have zw:∀ size:Nat,0<size->Zn.empty.Wf size:=fun size hs=>⟨fun x hx=>(by cases hx),by show 0<=4;omega,Nat.le_refl _,Nat.zero_le _,fun _=>hs⟩
  have dw:Dv.Wf ⟨(g.D*g.Z).toNat,g.S.toNat,g.O,0,false,fun _=>Zn.empty⟩:=⟨by show g.S.toNat<=64;omega,by show (g.D*g.Z).toNat<=512;omega,fun i _=>zw _ (by show 0<g.S.toNat;omega)⟩
  refine⟨fun i hi=>?_,⟨by show 0+0<=200;omega,fun e he=>(by cases he),fun e he=>(by cases he)⟩,V,M,0,0,.Af,.Af,[],_,d.D6,d.marks,fun e he=>(by cases he),.nil _ _ _ _,.nil _ _ _ _,⟨dw,fun i hi=>(lowF i hi).1,zl,z,fun _=>0,?_,fun i hi=>hi⟩,⟨fun i hi=>.inr (.inr hi),.inl rfl,.inr (.inl rfl),fun y=>absurd y (Nat.lt_irrefl _),fun y=>absurd y (Nat.lt_irrefl _)⟩,⟨kind _ _ d.D6 (by intros;simp) (by intros;simp) (by intros;simp),kind _ _ d.marks (by intros;simp) (by intros;simp) (by intros;simp),fun y=>absurd y (Nat.lt_irrefl _),fun y=>absurd y (Nat.lt_irrefl _),fun y=>absurd y (Nat.lt_irrefl _)⟩⟩
  ·rcases hi with y|y|y
   ·subst y;exact hb _ _ d.D6
   ·subst y;exact hb _ _ d.marks
   ·exact(lowF i y).1
  ·show Js h V zl (g.D*g.Z).toNat z (fun _=>0) ((g.S.toNat:Nat):Int) g.O 0 false (fun _=>Zn.empty)
   rw[<-hS];exact hdev
 refine⟨⟨fun i hi=>hi.1,D,p,bl,ql,g.D.toNat,q,c,_,MA,PA,⟨rfl,s,fun d _=>Nat.zero_le _⟩,drvS,?_,?_⟩,fun i hi=>Nat.lt_of_lt_of_le hi le,{ toWp:=⟨s,fun d _ x hx=>by cases hx⟩,op:=.inl ⟨rfl,rfl⟩ }⟩
 ·have k:=kindG
  exact⟨k _ _ MA.J4 (by intros;simp) (by intros;simp) (by intros;simp) (by intros;simp) (by intros;simp),k _ _ MA.An3 (by intros;simp) (by intros;simp) (by intros;simp) (by intros;simp) (by intros;simp),k _ _ PA.G3 (by intros;simp) (by intros;simp) (by intros;simp) (by intros;simp) (by intros;simp),k _ _ PA.row (by intros;simp) (by intros;simp) (by intros;simp) (by intros;simp) (by intros;simp),
   fun d hd=>⟨k _ _ (PA.que d hd) (by intros;simp) (by intros;simp) (by intros;simp) (by intros;simp) (by intros;simp),k _ _ (PA.chan d hd) (by intros;simp) (by intros;simp) (by intros;simp) (by intros;simp) (by intros;simp)⟩⟩
 ·refine⟨fun i hi=>?_,⟨hb _ _ MA.J4,by omega⟩,⟨hb _ _ MA.An3,by omega⟩,⟨hb _ _ PA.G3,by omega⟩,⟨hb _ _ PA.row,by omega⟩,fun d hd=>⟨⟨hb _ _ (PA.que d hd),by have:=nm.2.2.2 d hd;omega⟩,⟨hb _ _ (PA.chan d hd),by have:=nm.2.2.2 d hd;omega⟩⟩⟩
  rcases hi with y|y|y
  ·subst y;exact⟨hb _ _ d.D6,by omega⟩
  ·subst y;exact⟨hb _ _ d.marks,by omega⟩
  ·exact⟨(lowF i y).1,by have:=(lowF i y).2;omega⟩
end Go.Ev

namespace Go.Ev
open Go.Proofs
set_option maxRecDepth 100000
variable {K:Nat}{disp:Nat->Option FT}
def z20:List EV:=[EV.Af]++List.replicate 3 (EV.int .i64 0)++[EV.bool false]++List.replicate 2 EV.Af++List.replicate 8 (EV.int .i64 0)++List.replicate 2 EV.Af++List.replicate 3 (EV.int .i64 0)
end Go.Ev

namespace Go.Ev
open Go.Proofs
set_option maxRecDepth 100000
variable {K:Nat}{disp:Nat->Option FT}
theorem Alu {zs:Nat->Zn}{a b:Nat}:∀ n,(∀ i,i<n->(zs i).st=1->i=a\/i=b)->O7 zs n<=(if a<n then 1 else 0)+(if b<n then 1 else 0)
 | 0,_=>by unfold O7;simp
 | n+1,h=>by
  rw[Apk]
  have ih:=Alu n fun i hi=>h i (by omega)
  by_cases h1:(zs n).st=1
  ·rw[if_pos h1]
   rcases h n (Nat.lt_succ_self _) h1 with y|y
   ·subst y
    rw[if_neg (Nat.lt_irrefl _)]at ih
    rw[if_pos (Nat.lt_succ_self _)]
    have:(if b<n then 1 else 0)<=(if b<n+1 then 1 else 0):=by split <;> split <;> omega
    omega
   ·subst y
    rw[if_neg (Nat.lt_irrefl n)]at ih
    rw[if_pos (Nat.lt_succ_self n)]
    have:(if a<n then 1 else 0)<=(if a<n+1 then 1 else 0):=by split <;> split <;> omega
    omega
  ·rw[if_neg h1]
   have t1:(if b<n then 1 else 0)<=(if b<n+1 then 1 else 0):=by split <;> split <;> omega
   have t2:(if a<n then 1 else 0)<=(if a<n+1 then 1 else 0):=by split <;> split <;> omega
   omega
noncomputable def Anu(e:En)(z mt off Ax seq:Int):List EV:=Dl (Ii (F4 { e with F6:=mt } z off Ax seq).1)
def EOk(e:En)(Ax seq:Int):Prop:=(F4 e 0 0 Ax seq).2=0
theorem EOk.at {e:En}{Ax seq:Int}(h:EOk e Ax seq){z mt off:Int}(hz:0<=z)(hz':z<=65535)(hm:0<=mt)(hm':mt<=65535)(ho:0<=off)(ho':off<=65535):(F4 { e with F6:=mt } z off Ax seq).2=0:=by
 unfold EOk F4 at h
 by_cases hc:erB e=true/\frB ⟨e.kind,0,0,Ax,seq,(Gp e).1⟩=true/\e.first<=seq/\seq-e.count<e.first
 ·obtain⟨c1,c2,c3,c4⟩:=hc
  unfold F4
  rw[if_pos]
  refine⟨?_,?_,c3,c4⟩
  ·unfold erB at c1 ⊢
   simp only[Bool.and_eq_true]at c1 ⊢
   exact⟨c1.1,c1.2.1,Ie.2 ⟨hm,hm'⟩,c1.2.2.2⟩
  ·unfold frB at c2 ⊢
   simp only[Bool.and_eq_true]at c2 ⊢
   exact⟨c2.1,Ie.2 ⟨hz,hz'⟩,Ie.2 ⟨ho,ho'⟩,c2.2.2.2⟩
 ·rw[if_neg hc]at h
  exact absurd h (by decide)
structure Calm(S:Mi):Prop where
 wf:S.Wf
 rt:rtB S.g=true
 ev:S.dr.ev = []
 up:S.dr.dv.down=false
 n:S.dr.dv.n=(S.g.D*S.g.Z).toNat
 size:S.dr.dv.size=S.g.S.toNat
 op:S.dr.dv.op=S.g.O
 bad:∀ i,¬ S.bad i=1
 nd:∀ d,d<S.g.D.toNat->(S.ps d).Nodup
 fr:∀ d,d<S.g.D.toNat->∀ x ∈ S.ps d,(S.dr.dv.zs x.toNat).l = []/\(S.dr.dv.zs x.toNat).st=0
 opn:(S.a = -1/\S.b = -1)\/(0<=E6 S.g S.a/\0<=E6 S.g S.b/\¬ E6 S.g S.a=E6 S.g S.b/\0<=S.u/\S.u<=S.g.S /\
  (∀ d,d<S.g.D.toNat->S.a ∉ S.ps d/\S.b ∉ S.ps d)/\(∀ z,z=S.a\/z=S.b->((S.dr.dv.zs z.toNat).l.length:Int)=S.u/\(S.dr.dv.zs z.toNat).st=if S.u=S.g.S then 2 else if S.u=0 then 0 else 1))
 few:∀ i,i<S.dr.dv.n->(S.dr.dv.zs i).st=1->(i:Int)=S.a\/(i:Int)=S.b
theorem Calm.sm {S:Mi}(c:Calm S):Sm S.g:=Al9 c.rt
theorem Z1 {S:Mi}(c:Calm S){z:Int}(h:0<=E6 S.g z):0<=z/\z.toNat<S.dr.dv.n/\S.dr.dv.has z=true/\z<=511:=by
 have h1:=c.sm.d1;have h2:=c.sm.z1;have h3:=c.sm.d0;have h4:=c.sm.z0
 obtain⟨m0,m1⟩:=X2 (a:=S.g.D) (b:=S.g.Z) (A:=8) (B:=64) (by omega) (by omega) (by omega) (by omega)
 rcases Y5 c.sm z with y|⟨_,_,_,y1,y2⟩
 ·omega
 ·have hn:=c.n
  refine⟨y1,by omega,?_,by omega⟩
  unfold Dv.has
  exact decide_eq_true ⟨y1,by omega⟩
theorem Aqe {S:K4}(h:S.ev = [])(i:Int):S.begin i=S:=by
 have hd:S.due=S:=by
  unfold K4.due;rw[h];unfold Aud;rw[<-h]
 unfold K4.begin
 split
 ·exact hd
 ·rfl
theorem Amu {D:Dv}(h:D.down=false){i:Int}(hh:D.has i=true):D.Gb i=0:=by
 unfold Dv.Gb;rw[h,hh];simp
theorem Axa {D:Dv}(h:D.down=false){i:Int}(hh:D.has i=true)(hs:(D.zs i.toNat).st<2)(ho:¬ D.op<=O7 D.zs D.n)(x:List EV):
 D.append i x=(D.tick.set i.toNat ((D.zs i.toNat).app D.size x),(((D.zs i.toNat).l.length:Nat):Int),0):=by
 unfold Dv.append
 rw[Amu h hh,if_neg (fun y=>y rfl),if_neg (fun y=>ho y.2),if_neg (by omega)]
theorem Ayc {S:Mi}(ev:S.dr.ev = [])(up:S.dr.dv.down=false){e:En}{A7 F6 Ax seq:Int}(hf:(F4 { e with F6:=F6 } A7 S.u Ax seq).2=0)(hh:S.dr.dv.has A7=true)(hs:(S.dr.dv.zs A7.toNat).st<2)(ho:¬ S.dr.dv.op<=O7 S.dr.dv.zs S.dr.dv.n)
 (hl:((S.dr.dv.zs A7.toNat).l.length:Int)=S.u) :
 S.put e A7 F6 Ax seq=({ S with dr:={ S.dr with dv:=S.dr.dv.tick.set A7.toNat ((S.dr.dv.zs A7.toNat).app S.dr.dv.size (Anu e A7 F6 S.u Ax seq)) } },0):=by
 unfold Mi.put K4.append
 rw[if_neg (fun y=>y hf),Aqe ev]
 have ha:=Axa up hh hs ho (Dl (Ii (F4 { e with F6:=F6 } A7 S.u Ax seq).1))
 simp only[ha,hl,not_true_eq_false,and_false,if_false]
 rfl
noncomputable def Mi.Aiy(S:Mi)(e:En)(Ax seq:Int):Mi:=
 { S with dr:={ S.dr with dv:=((S.dr.dv.tick.set S.a.toNat ((S.dr.dv.zs S.a.toNat).app S.dr.dv.size (Anu e S.a S.b S.u Ax seq))).tick.set S.b.toNat ((S.dr.dv.zs S.b.toNat).app S.dr.dv.size (Anu e S.b S.a S.u Ax seq))) },u:=S.u+1 }
def Roomy(S:Mi):Prop:=¬ S.a = -1/\S.u<S.g.S
theorem Calm.ne {S:Mi}(c:Calm S)(r:Roomy S):0<=E6 S.g S.a/\0<=E6 S.g S.b/\¬ E6 S.g S.a=E6 S.g S.b/\0<=S.u/\S.a.toNat ≠ S.b.toNat /\
 (∀ d,d<S.g.D.toNat->S.a ∉ S.ps d/\S.b ∉ S.ps d)/\(∀ z,z=S.a\/z=S.b->((S.dr.dv.zs z.toNat).l.length:Int)=S.u/\(S.dr.dv.zs z.toNat).st=if S.u=0 then 0 else 1):=by
 rcases c.opn with y|⟨y1,y2,y3,y4,y5,y6,y7⟩
 ·exact absurd y.1 r.1
 ·have h1:=Z1 c y1
  have h2:=Z1 c y2
  refine⟨y1,y2,y3,y4,fun y=>y3 ?_,y6,fun z hz=>?_⟩
  ·have:S.a=S.b:=by omega
   rw[this]
  ·have:=y7 z hz
   have hu:=r.2
   rw[if_neg (by omega)]at this
   exact this
theorem A5l {S:Mi}(c:Calm S)(r:Roomy S){e:En}{Ax seq:Int}(he:EOk e Ax seq):
 S.both e Ax seq=({ S.Aiy e Ax seq with u:=S.u },S.b,0):=by
 obtain⟨n1,n2,n3,n4,n5,n6,n7⟩:=c.ne r
 obtain⟨a1,a2,a3,a4⟩:=Z1 c n1
 obtain⟨b1,b2,b3,b4⟩:=Z1 c n2
 have hs:=c.sm
 have:=hs.s1;have:=hs.o0;have hr:=r.2
 have hop:=c.op
 obtain⟨la,sa⟩:=n7 _ (.inl rfl)
 obtain⟨lb,sb⟩:=n7 _ (.inr rfl)
 have f1:=he.at (z:=S.a) (mt:=S.b) (off:=S.u) a1 (by omega) b1 (by omega) n4 (by omega)
 have f2:=he.at (z:=S.b) (mt:=S.a) (off:=S.u) b1 (by omega) a1 (by omega) n4 (by omega)
 have o1:¬ S.dr.dv.op<=O7 S.dr.dv.zs S.dr.dv.n:=by
  have:=Alu (zs:=S.dr.dv.zs) (a:=S.a.toNat) (b:=S.b.toNat) S.dr.dv.n fun i hi h=>by
   rcases c.few i hi h with y|y <;> omega
  have h1:(if S.a.toNat<S.dr.dv.n then 1 else 0)<=1:=by split <;> omega
  have h2:(if S.b.toNat<S.dr.dv.n then 1 else 0)<=1:=by split <;> omega
  omega
 have p1:=Ayc c.ev c.up f1 a3 (by rw[sa];split <;> omega) o1 la
 unfold Mi.both
 rw[p1,if_neg (fun y=>y rfl)]
 have hzb:(K1 S.dr.dv.zs S.a.toNat ((S.dr.dv.zs S.a.toNat).app S.dr.dv.size (Anu e S.a S.b S.u Ax seq)) S.b.toNat)=S.dr.dv.zs S.b.toNat:=by
  unfold K1;rw[if_neg (Ne.symm n5)]
 have o2:¬ S.dr.dv.op<=O7 (K1 S.dr.dv.zs S.a.toNat ((S.dr.dv.zs S.a.toNat).app S.dr.dv.size (Anu e S.a S.b S.u Ax seq))) S.dr.dv.n:=by
  have:=Alu (zs:=K1 S.dr.dv.zs S.a.toNat ((S.dr.dv.zs S.a.toNat).app S.dr.dv.size (Anu e S.a S.b S.u Ax seq))) (a:=S.a.toNat) (b:=S.b.toNat) S.dr.dv.n fun i hi h=>by
   unfold K1 at h
   split at h
   ·rename_i y;exact .inl y
   ·rcases c.few i hi h with y|y <;> omega
  have h1:(if S.a.toNat<S.dr.dv.n then 1 else 0)<=1:=by split <;> omega
  have h2:(if S.b.toNat<S.dr.dv.n then 1 else 0)<=1:=by split <;> omega
  omega
 have p2:=Ayc (S:={ S with dr:={ S.dr with dv:=S.dr.dv.tick.set S.a.toNat ((S.dr.dv.zs S.a.toNat).app S.dr.dv.size (Anu e S.a S.b S.u Ax seq)) } }) (A7:=S.b) (F6:=S.a) c.ev c.up f2 b3
  (by show (K1 S.dr.dv.zs S.a.toNat _ S.b.toNat).st<2;rw[hzb,sb];split <;> omega) o2 (by show ((K1 S.dr.dv.zs S.a.toNat _ S.b.toNat).l.length:Int)=S.u;rw[hzb];exact lb)
 rw[p2]
 have e1:(({ S with dr:={ S.dr with dv:=S.dr.dv.tick.set S.a.toNat ((S.dr.dv.zs S.a.toNat).app S.dr.dv.size (Anu e S.a S.b S.u Ax seq)) } }:Mi).dr.dv.zs S.b.toNat)=S.dr.dv.zs S.b.toNat:=hzb
 rw[e1]
 rfl
noncomputable def Mi.Aos(S:Mi):Mi:={ S with dr:={ S.dr with dv:={ S.dr.dv.tick with zs:=fun i=>(S.dr.dv.zs i).flush } } }
theorem Azj {S:Mi}(ev:S.dr.ev = [])(up:S.dr.dv.down=false):S.dr.flush=(S.Aos.dr,0):=by
 have hd:S.dr.due=S.dr:=by
  unfold K4.due;rw[ev];unfold Aud;rw[<-ev]
 unfold K4.flush
 rw[hd]
 unfold Dv.flush
 rw[up]
 rfl
noncomputable def Mi.Af2(S:Mi):Option Mi:=
 open Classical in if Roomy S then some S else match Adh S.ps S.g.D.toNat with
  | none=>none
  | some (x,y,ps')=>some { S.Aos with ps:=ps',a:=x,b:=y,u:=0 }
theorem Awy {g:Gm}(s:Sm g){x y:Int}(hx:0<=E6 g x)(hy:0<=E6 g y)(h:x.toNat=y.toNat):x=y:=by
 have:=Rq s hx
 have:=Rq s hy
 omega
theorem Aya {S T:Mi}(c:Calm S)(h:S.Af2=some T):Calm T/\Roomy T/\T.g=S.g/\T.bad=S.bad/\T.dr.ev=S.dr.ev/\T.dr.Qd=S.dr.Qd:=by
 unfold Mi.Af2 at h
 split at h
 ·rename_i r
  cases h
  exact⟨c,r,rfl,rfl,rfl,rfl⟩
 ·rename_i hr
  cases hp:Adh S.ps S.g.D.toNat with
  | none=>rw[hp]at h;cases h
  | some t=>
   obtain⟨x,y,ps'⟩:=t
   rw[hp]at h
   cases h
   obtain⟨i,j,hi,hj,hij,ex,ey,ek,_,_,dx,dy⟩:=Al3 c.wf.ps hp
   have sub:∀ d,d<S.g.D.toNat->∀ z,z ∈ ps' d->z ∈ S.ps d/\z ≠ x/\z ≠ y:=fun d hd z hz=>by
    have nd:=c.nd d hd
    have key:z ∈ S.ps d:=by
     by_cases h1:d=i
     ·subst h1;rw[ex];exact List.mem_cons_of_mem _ hz
     ·by_cases h2:d=j
      ·subst h2;rw[ey];exact List.mem_cons_of_mem _ hz
      ·rw[<-ek d h1 h2];exact hz
    have dz:=(c.wf.ps d hd z key).1
    refine⟨key,fun y'=>?_,fun y'=>?_⟩
    ·subst y'
     have:d=i:=by omega
     subst this
     rw[ex]at nd
     exact(List.nodup_cons.1 nd).1 hz
    ·subst y'
     have:d=j:=by omega
     subst this
     rw[ey]at nd
     exact(List.nodup_cons.1 nd).1 hz
   have mx:x ∈ S.ps i:=by rw[ex];exact List.mem_cons_self ..
   have my:y ∈ S.ps j:=by rw[ey];exact List.mem_cons_self ..
   have fx:=c.fr i hi x mx
   have fy:=c.fr j hj y my
   have s0:=c.sm.s0
   have full:∀ z:Int,(z=S.a\/z=S.b)->¬ S.a = -1->(S.dr.dv.zs z.toNat).st=2:=fun z hz ha=>by
    rcases c.opn with y|⟨y1,y2,y3,y4,y5,y6,y7⟩
    ·exact absurd y.1 ha
    ·have:=(y7 z hz).2
     have hu:S.u=S.g.S:=by
      rcases Decidable.em (S.u<S.g.S) with y|y
      ·exact absurd ⟨ha,y⟩ hr
      ·omega
     rw[if_pos hu]at this
     exact this
   refine⟨⟨{ toWp:=⟨c.wf.sm,fun d hd z hz=>c.wf.ps d hd z (sub d hd z hz).1⟩,op:=.inr ⟨⟨by show 0<=E6 S.g x;omega,c.bad _⟩,⟨by show 0<=E6 S.g y;omega,c.bad _⟩⟩ },c.rt,c.ev,c.up,c.n,c.size,c.op,c.bad,fun d hd=>?_,fun d hd z hz=>c.fr d hd z (sub d hd z hz).1,.inr ⟨by show 0<=E6 S.g x;omega,by show 0<=E6 S.g y;omega,by show ¬ E6 S.g x=E6 S.g y;omega,Int.le_refl _,by show 0<=S.g.S;omega,fun d hd=>⟨fun hz=>(sub d hd x hz).2.1 rfl,fun hz=>(sub d hd y hz).2.2 rfl⟩,fun z hz=>?_⟩,fun k hk hs=>?_⟩,⟨?_,by show 0<S.g.S;omega⟩,rfl,rfl,rfl,rfl⟩
   ·show (ps' d).Nodup
    have nd:=c.nd d hd
    by_cases h1:d=i
    ·subst h1;rw[ex]at nd;exact(List.nodup_cons.1 nd).2
    ·by_cases h2:d=j
     ·subst h2;rw[ey]at nd;exact(List.nodup_cons.1 nd).2
     ·rw[ek d h1 h2];exact nd
   ·show (((S.dr.dv.zs z.toNat).flush.l.length:Nat):Int)=0/\((S.dr.dv.zs z.toNat).flush).st=if (0:Int)=S.g.S then 2 else if (0:Int)=0 then 0 else 1
    rw[if_neg (by omega),if_pos rfl]
    have hz:z=x\/z=y:=hz
    rcases hz with hz|hz
    ·subst hz;exact⟨by show (((S.dr.dv.zs z.toNat).l.length:Nat):Int)=0;rw[fx.1];rfl,fx.2⟩
    ·subst hz;exact⟨by show (((S.dr.dv.zs z.toNat).l.length:Nat):Int)=0;rw[fy.1];rfl,fy.2⟩
   ·exfalso
    have hs:(S.dr.dv.zs k).st=1:=hs
    have ho:=c.few k hk hs
    have ha:¬ S.a = -1:=fun y=>by
     rcases c.opn with z|z
     ·omega
     ·rw[y]at z
      have:=Rq c.sm z.1
      omega
    have:=full k ho ha
    rw[show ((k:Nat):Int).toNat=k from rfl]at this
    omega
   ·have:=Rq c.sm (z:=x) (by omega)
    show ¬ x = -1
    omega
theorem Calm.Aiy {S:Mi}(c:Calm S)(r:Roomy S)(e:En)(Ax seq:Int):Calm (S.Aiy e Ax seq):=by
 obtain⟨n1,n2,n3,n4,n5,n6,n7⟩:=c.ne r
 have hsz:=c.size
 have s0:=c.sm.s0
 have hr:=r.2
 have za:((S.Aiy e Ax seq).dr.dv.zs S.a.toNat)=(S.dr.dv.zs S.a.toNat).app S.dr.dv.size (Anu e S.a S.b S.u Ax seq):=by
  show K1 (K1 S.dr.dv.zs S.a.toNat _) S.b.toNat _ S.a.toNat=_
  unfold K1;rw[if_neg n5,if_pos rfl]
 have zb:((S.Aiy e Ax seq).dr.dv.zs S.b.toNat)=(S.dr.dv.zs S.b.toNat).app S.dr.dv.size (Anu e S.b S.a S.u Ax seq):=by
  show K1 (K1 S.dr.dv.zs S.a.toNat _) S.b.toNat _ S.b.toNat=_
  unfold K1;rw[if_pos rfl]
 have zo:∀ i,i ≠ S.a.toNat->i ≠ S.b.toNat->((S.Aiy e Ax seq).dr.dv.zs i)=S.dr.dv.zs i:=fun i h1 h2=>by
  show K1 (K1 S.dr.dv.zs S.a.toNat _) S.b.toNat _ i=_
  unfold K1;rw[if_neg h2,if_neg h1]
 have hst:∀ z x,z=S.a\/z=S.b->(((S.dr.dv.zs z.toNat).app S.dr.dv.size x).l.length:Int)=S.u+1/\((S.dr.dv.zs z.toNat).app S.dr.dv.size x).st=if S.u+1=S.g.S then 2 else if S.u+1=0 then 0 else 1:=fun z x hz=>by
  obtain⟨l,s⟩:=n7 z hz
  refine⟨by simp only[Zn.app,List.length_append,List.length_singleton];omega,?_⟩
  simp only[Zn.app]
  by_cases h:S.u+1=S.g.S
  ·rw[if_pos h,if_pos (by omega)]
  ·rw[if_neg h,if_neg (by omega),if_neg (by omega)]
 refine⟨{ toWp:=⟨c.wf.sm,c.wf.ps⟩,op:=c.wf.op },c.rt,c.ev,c.up,c.n,c.size,c.op,c.bad,c.nd,fun d hd x hx=>?_,.inr ⟨n1,n2,n3,by show 0<=S.u+1;omega,by show S.u+1<=S.g.S;omega,n6,fun z hz=>?_⟩,fun i hi hs=>?_⟩
 ·have hx:x ∈ S.ps d:=hx
  have dx:=(c.wf.ps d hd x hx).1
  have h1:x ≠ S.a:=fun y=>(n6 d hd).1 (y ▸ hx)
  have h2:x ≠ S.b:=fun y=>(n6 d hd).2 (y ▸ hx)
  rw[zo _ (fun y=>h1 (Awy c.sm (by omega) n1 y)) (fun y=>h2 (Awy c.sm (by omega) n2 y))]
  exact c.fr d hd x hx
 ·have hz:z=S.a\/z=S.b:=hz
  show ((((S.Aiy e Ax seq).dr.dv.zs z.toNat).l.length:Nat):Int)=S.u+1/\((S.Aiy e Ax seq).dr.dv.zs z.toNat).st=if S.u+1=S.g.S then 2 else if S.u+1=0 then 0 else 1
  rcases hz with hz|hz
  ·subst hz;rw[za];exact hst _ _ (.inl rfl)
  ·subst hz;rw[zb];exact hst _ _ (.inr rfl)
 ·show (i:Int)=S.a\/(i:Int)=S.b
  have ga:=Rq c.sm n1
  have gb:=Rq c.sm n2
  by_cases h1:i=S.a.toNat
  ·exact .inl (by omega)
  ·by_cases h2:i=S.b.toNat
   ·exact .inr (by omega)
   ·rw[zo i h1 h2]at hs
    exact c.few i hi hs
theorem Ay0 {S:Mi}(c:Calm S):S.ready=match S.Af2 with|some T=>(T,0)|none=>(S.Aos,40):=by
 have hf:=Azj c.ev c.up
 unfold Mi.ready Mi.Af2
 by_cases r:Roomy S
 ·rw[if_pos r]
  simp only[r,if_true]
  exact if_pos r
 ·simp only[r,if_false]
  rw[if_neg (show ¬ (¬ S.a = -1/\S.u<S.g.S) from r),hf]
  simp only[not_true_eq_false,if_false]
  cases Adh S.ps S.g.D.toNat with
  | none=>rfl
  | some t=>rfl
theorem Azi {S:Mi}(c:Calm S){e:En}{Ax seq:Int}(he:EOk e Ax seq):S.place e Ax seq=match S.Af2 with
 | some T=>(T.Aiy e Ax seq,⟨1,T.a,T.b,T.u,seq,Gl e.bytes⟩,0)
 | none=>(S.Aos,Me.zero,40):=by
 unfold Mi.place
 rw[if_neg (fun y=>y he)]
 show Mi.Qj e Ax seq (999+1) S=_
 unfold Mi.Qj
 rw[Ay0 c]
 cases ho:S.Af2 with
 | none=>rfl
 | some T=>
  obtain⟨cT,rT,_⟩:=Aya c ho
  simp only[not_true_eq_false,if_false]
  rw[A5l cT rT he,if_pos rfl]
  have:=cT.sm.s1
  have hu:=rT.2
  have hu0:=(cT.ne rT).2.2.2.1
  have:(({ T.Aiy e Ax seq with u:=T.u }:Mi).Aky)=T.Aiy e Ax seq:=by
   unfold Mi.Aky
   simp only
   rw[C8 (by omega) (by omega)]
   rfl
  rw[this]
  rfl
end Go.Ev

namespace Go.Ev
open Go.Proofs
set_option maxRecDepth 100000
variable {K:Nat}{disp:Nat->Option FT}
noncomputable def Mi.Aqp(S:Mi)(z:Int):Mi:={ S with ps:=(Adr S.g S.g.D.toNat S.ps z).2 }
theorem Mi.Wf.Aqp {S:Mi}(w:S.Wf){z:Int}(hz:0<=E6 S.g z->¬ S.bad z.toNat=1):(S.Aqp z).Wf:={ toWp:=⟨w.sm,Atw w.ps _ _ hz⟩,op:=w.op }
section
variable {h:Aa}{m:Nat}{S:Mi}{F:Nat->Prop}(M:Fc h m S F)(hb:HB h)
include M
theorem Ays(hb:HB h):Ok (Ic K (.ptr m 0) h) fun v h'=>v=gV S.g/\Ext h h':=by
 obtain⟨_,D,p,bl,ql,np,q,c,G,a⟩:=M.s
 exact Aq1 a.J4 hb
theorem Ba6:∃ D V G F',Cr K (.ptr m 0) h=some (.ptr D 0,h)/\C2 K (.ptr D 0) h=some (.ptr V 0,h)/\Fe h D S.dr G/\Gz h V S.dr.dv F':=by
 obtain⟨_,D,p,bl,ql,np,q,c,G,a⟩:=M.s
 obtain⟨V,M',qc,qh,cs,hs,ms,F',d⟩:=a.drv.Pb
 exact⟨D,V,G,F',P0 a.J4,Aha d,a.drv,d.dev⟩
include hb
theorem A9y(A:Aq disp)(hK:10000<K):∃ p,Jq K (.ptr m 0) h=some (.ptr p 0,h)/\∀ {d:Nat},8<=d->∀ {z:Int},Rng z->(0<=E6 S.g z->¬ S.bad z.toNat=1) ->
 Ok (Ad TT disp K d false 15 [.ptr p 0,I z] h) fun v h'=>v=I (Adr S.g S.g.D.toNat S.ps z).1/\Fc h' m (S.Aqp z) F/\Kf F h h'/\HB h':=by
 obtain⟨lt,D,p,bl,ql,np,q,c,G,a⟩:=M.s
 refine⟨p,Ap9 a.J4,fun {d} hd {z} hz nb=>?_⟩
 have hnp:=a.psz.nd
 subst hnp
 refine(A1l (K:=K) A a.G3 hb a.psz (by omega) hd z hz).mono ?_
 rintro v h' ⟨c3,hb3,rfl,P3,Z3⟩
 obtain⟨a3,cH⟩:=a.Aj8 hb P3 Z3 c3
 obtain⟨M3,k3⟩:=M.made (O6.mono (H:=Out F h) ⟨fun i hi=>Nat.lt_of_lt_of_le hi.1 cH.next,D,p,bl,ql,_,q,c,G,a3⟩ (fun _=>.inl) (Bq.lt lt cH.next)) cH (M.wf.Aqp nb)
 exact⟨rfl,M3,k3,hb3⟩
end
structure Amw(S:Mi):Prop where
 calm:Calm S
 cl:S.a = -1/\S.b = -1
 zs:∀ i,S.dr.dv.zs i=Zn.empty
theorem A21 {g:Gm}(hr:rtB g=true):Amw (Mi.new g):=by
 have s:=Al9 hr
 refine⟨⟨{ toWp:=⟨s,fun d _ x hx=>(by cases hx)⟩,op:=.inl ⟨rfl,rfl⟩ },hr,rfl,rfl,rfl,rfl,rfl,fun i y=>(by cases y),fun d _=>List.nodup_nil,fun d _ x hx=>(by cases hx),.inl ⟨rfl,rfl⟩,fun i _ y=>(by cases y)⟩,⟨rfl,rfl⟩,fun _=>rfl⟩
theorem Amw.Aqp {S:Mi}(f:Amw S)(z:Int):Amw (S.Aqp z):=by
 have c:=f.calm
 have nd:∀ d,d<S.g.D.toNat->((S.Aqp z).ps d).Nodup:=fun d hd=>by
  show ((Adr S.g S.g.D.toNat S.ps z).2 d).Nodup
  unfold Adr
  split
  ·exact c.nd d hd
  ·split
   ·exact c.nd d hd
   ·rename_i h0 hh
    split
    ·simp only[upd]
     split
     ·rename_i e
      rw[List.nodup_append]
      refine⟨by rw[<-e];exact c.nd d hd,by simp,fun a ha b hb y=>?_⟩
      rw[List.mem_singleton.1 hb]at y
      subst y
      exact hh (Atr.2 ⟨d,hd,by rw[e];exact ha⟩)
     ·exact c.nd d hd
    ·exact c.nd d hd
 refine⟨⟨c.wf.Aqp fun _=>c.bad _,c.rt,c.ev,c.up,c.n,c.size,c.op,c.bad,nd,fun d hd x hx=>?_,.inl f.cl,c.few⟩,f.cl,f.zs⟩
 show (S.dr.dv.zs x.toNat).l = []/\(S.dr.dv.zs x.toNat).st=0
 rw[f.zs];exact⟨rfl,rfl⟩
end Go.Ev
