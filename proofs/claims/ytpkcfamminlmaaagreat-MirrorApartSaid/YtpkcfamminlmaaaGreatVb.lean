import Derived.Test.YtpkcfamminlmaaaGreatVa
import Derived.Test.YtpkcfamminlmaaaGreatXb
set_option linter.unusedVariables false
set_option linter.unusedSimpArgs false
set_option linter.unusedSectionVars false
namespace Go.Ev
open Go.Proofs
set_option maxRecDepth 100000
variable {K:Nat}{disp:Nat->Option FT}
theorem A5m:TT.size 87=some 32/\TT.agg 87=some true:=⟨by kernel_rfl,by kernel_rfl⟩
end Go.Ev

namespace Go.Ev
open Go.Proofs
set_option maxRecDepth 100000
variable {K:Nat}{disp:Nat->Option FT}
section
variable (A:Au disp)(hK:10000<K){d:Nat}(hd:20<=d){h:Aa}{m b3 b4:Nat}{S:Mi}{F:Nat->Prop}(M:H4 h m S F)(hb:HB h)(x:Me)
include A hK hd M hb
end
section
variable (A:Au disp)(hK:10000<K){d:Nat}(hd:20<=d){h:Aa}{m b3 b4 b7:Nat}{S:Mi}{F:Nat->Prop}(M:H4 h m S F)(hb:HB h)(x:Me)
include A hK hd M hb
end
end Go.Ev

namespace Go.Ev
open Go.Proofs
set_option maxRecDepth 100000
variable {K:Nat}{disp:Nat->Option FT}
theorem A6p:TT.size 33=some 5/\TT.agg 33=some true:=⟨by kernel_rfl,by kernel_rfl⟩
theorem Av3:TT.size 42=some 20/\TT.agg 42=some true:=⟨by kernel_rfl,by kernel_rfl⟩
theorem At2 {h0:Aa}{b6 b7 n:Nat}{size op:Int}(l6:h0.next<=b6)(l67:b6<b7)(hn:n<=1000):∀ (m i:Nat) (h:Aa) (s:EV) (q:Nat) (l:List EV),n-i<m->i<=n->HB h->Ext h0 h->h.get b6=some (.cells [.Ag,.int .i64 0,.int .i64 0,.int .i64 0,.bool false] 33) ->
 h.get b7=some (.cells [s,I size,I op,.int .i64 0,.bool false] 33)->B0 h s q 215 4 i l->(0<i->b7<q) ->
 Ok (Cy K m (I n) (.ptr b6 0) (.ptr b7 0) (.int .i64 (i:Int)) h) fun v h'=>∃ s,v=.agg [s,I size,I op,I 0,.bool false]/\Ext h0 h'/\HB h':=by
 intro m
 induction m with
 | zero=>intro i h s q l hm;omega
 | succ m ih=>
  intro i h s q l hm hi hb x g6 g7 r hq
  have l7:=hb _ _ g7
  simp only[Cy,I,Ad]
  by_cases hlt:(i:Int)<n
  ·simp only[hlt,decide_true,Ab,Qt,B2 g7 rfl]
   rw[Cu (l:=[.Ag,.int .i64 0,.int .i64 0,.bool false]) rfl]
   refine Q5 (z:=[.Ag,.int .i64 0,.int .i64 0,.bool false]) r hb rfl rfl rfl (by omega) (by omega) ?_
   intro h2 r2 n2 c2
   have nq:∀ {j o},h.get j=some o->(∀ l,o ≠ .vec l 215 4)->¬ (0<i/\j=q):=fun gj ho y=>by
    have:=r.block y.1
    rw[y.2,this]at gj;cases gj;exact ho _ rfl
   have hb2:=c2.hb hb
   have x2:Ext h0 h2:=x.then c2 fun j hj hl=>by
    have:=hq hj.1;omega
   have g62:=c2.at hb g6 (nq g6 (by intros;simp))
   have g72:=c2.at hb g7 (nq g7 (by intros;simp))
   have l72:=hb2 _ _ g72
   try simp only[Ab]
   refine Ok.st1 g72 rfl rfl (by show 0<5;decide) ?_
   simp only[List.set,Qw,Ad]
   rw[C6 (by omega) (by omega)]
   have hs:(EV.slice (h.next+1) 0 (i+1) (i+1) true)=.slice (h.next+1) 0 (i+1) (i+1) true:=rfl
   refine ih (i+1) _ _ (h.next+1) _ (by omega) (by omega) (hb2.put l72 _) (x2.A8 (.inr (by omega)) l72 _) ?_ (Aj _ _ _) (r2.frame fun _=>Ar _ ?_) (fun _=>by omega)
   ·rw[Ar _ (by omega)];exact g62
   ·omega
  ·simp only[hlt,decide_false,Ab,Mq]
   rw[F4 g7 rfl,Av (n:=5) rfl]
   try simp only[Ab]
   have l6':=hb _ _ g6
   refine Ok.st [s,I size,I op,.int .i64 0,.bool false] g6 rfl rfl (Cd rfl) ?_
   rw[X4 (Aj _ _ _) A6p.1 A6p.2 rfl]
   exact .ret ⟨s,rfl,x.A8 (.inr l6) l6' _,hb.put l6' _⟩
theorem Aom {n:Nat}{size op:Int}(hn:n<=1000)(hK:2000<K){h:Aa}(hb:HB h):Ok (Lj K (I n) (I size) (I op) h) fun v h'=>∃ s,v=.agg [s,I size,I op,I 0,.bool false]/\Ext h h'/\HB h':=by
 simp only[Lj,Ab]
 rw[Cu (l:=[.Ag,I size,I op,.int .i64 0,.bool false]) rfl]
 refine Ok.st [.Ag,I size,I op,.int .i64 0,.bool false] (Ae _ _) rfl rfl (Cd rfl) ?_
 have g6:((h.new (.cells [.Ag,.int .i64 0,.int .i64 0,.int .i64 0,.bool false] 33)).new (.cells [.Ag,.int .i64 0,.int .i64 0,.int .i64 0,.bool false] 33)).get h.next=some (.cells [.Ag,.int .i64 0,.int .i64 0,.int .i64 0,.bool false] 33):=by
  rw[Bm _ (Nat.lt_succ_self _)];exact Ae _ _
 have x1:Ext h ((h.new (.cells [.Ag,.int .i64 0,.int .i64 0,.int .i64 0,.bool false] 33)).new (.cells [.Ag,.int .i64 0,.int .i64 0,.int .i64 0,.bool false] 33)):=(A4.new _ _).Hy _
 have n1:((h.new (.cells [.Ag,.int .i64 0,.int .i64 0,.int .i64 0,.bool false] 33)).new (.cells [.Ag,.int .i64 0,.int .i64 0,.int .i64 0,.bool false] 33)).next=h.next+2:=rfl
 rw[show (h.new (.cells [.Ag,.int .i64 0,.int .i64 0,.int .i64 0,.bool false] 33)).next=h.next+1 from rfl]
 generalize (h.new (.cells [.Ag,.int .i64 0,.int .i64 0,.int .i64 0,.bool false] 33)).new (.cells [.Ag,.int .i64 0,.int .i64 0,.int .i64 0,.bool false] 33)=h1 at g6 x1 n1 ⊢
 have l7:h.next+1<h1.next:=by omega
 refine At2 (h0:=h) (b6:=h.next) (b7:=h.next+1) (n:=n) (size:=size) (op:=op) (Nat.le_refl _) (by omega) hn K 0 _ .Ag 0 [] (by omega) (by omega) ((x1.hb hb).put l7 _) (x1.A8 (.inr (by omega)) l7 _) ?_ (Aj _ _ _) (.nil _ _ _ _) (fun y=>absurd y (Nat.lt_irrefl _))
 rw[Ar _ (by omega)];exact g6
def Ag8(s:EV)(size op:Int)(g:Gm):List EV:=[s,I size,I op,I 0,.bool false,.Ag,.Ag]++gL g++[I g.D,I g.Z,.Ag,.Ag,I (-1),I (-1),I 0]
theorem Apl {s:EV}{size op:Int}{g:Gm}{h:Aa}(hb:HB h):Ok (Ll K (.agg [s,I size,I op,I 0,.bool false,.Ag,.Ag]) (gV g) h) fun v h'=>v=.agg (Ag8 s size op g)/\Ext h h'/\HB h':=by
 simp only[Ll,gV,Ab]
 rw[show (h.new (.cells [s,I size,I op,I 0,.bool false,.Ag,.Ag] 36)).next=h.next+1 from rfl]
 rw[show ((h.new (.cells [s,I size,I op,I 0,.bool false,.Ag,.Ag] 36)).new (.cells (gL g) 37)).next=h.next+2 from rfl]
 generalize hz:([EV.Ag]++List.replicate 3 (EV.int .i64 0)++[EV.bool false]++List.replicate 2 EV.Ag++List.replicate 8 (EV.int .i64 0)++List.replicate 2 EV.Ag++List.replicate 3 (EV.int .i64 0))=z20
 have x1:Ext h (((h.new (.cells [s,I size,I op,I 0,.bool false,.Ag,.Ag] 36)).new (.cells (gL g) 37)).new (.cells z20 42)):=((A4.new _ _).Hy _).Hy _
 have g2:(((h.new (.cells [s,I size,I op,I 0,.bool false,.Ag,.Ag] 36)).new (.cells (gL g) 37)).new (.cells z20 42)).get h.next=some (.cells [s,I size,I op,I 0,.bool false,.Ag,.Ag] 36):=by
  rw[Bm _ (by show h.next<h.next+1+1;omega),Bm _ (Nat.lt_succ_self _)];exact Ae _ _
 have g3:(((h.new (.cells [s,I size,I op,I 0,.bool false,.Ag,.Ag] 36)).new (.cells (gL g) 37)).new (.cells z20 42)).get (h.next+1)=some (.cells (gL g) 37):=by
  rw[Bm _ (by show h.next+1<h.next+1+1;omega)];exact Ae _ _
 have g4:(((h.new (.cells [s,I size,I op,I 0,.bool false,.Ag,.Ag] 36)).new (.cells (gL g) 37)).new (.cells z20 42)).get (h.next+2)=some (.cells z20 42):=Ae _ _
 generalize ((h.new (.cells [s,I size,I op,I 0,.bool false,.Ag,.Ag] 36)).new (.cells (gL g) 37)).new (.cells z20 42)=h1 at x1 g2 g3 g4 ⊢
 have hb1:=x1.hb hb
 rw[F4 g2 rfl,Av (n:=7) rfl]
 try simp only[Ab]
 rw[F4 g3 rfl,Av (n:=6) rfl]
 simp only[B2 g3 rfl,gL,Ab,I]
 rw[Cu (l:=[.int .i64 g.D,.int .i64 g.Z,.Ag]) rfl]
 subst hz
 rw[Cu (l:=Ag8 s size op g) rfl]
 have l4:=hb1 _ _ g4
 refine Ok.st (Ag8 s size op g) g4 rfl rfl (Cd rfl) ?_
 rw[X4 (Aj _ _ _) Av3.1 Av3.2 rfl]
 exact .ret ⟨rfl,x1.A8 (.inr (by omega)) l4 _,hb1.put l4 _⟩
theorem Arh {h:Aa}{i t n:Nat}{l:List EV}{v w:EV}(hg:h.get i=some (.cells l t))(hs:TT.size t=some n)(ha:TT.agg t=some true)(hl:l.length=n):H3 TT [.v v,.c (.ptr i 0) t,.v w] h=some (.tuple [v,.agg l,w],h):=by
 have hr:Gq h i 0 n=some l:=by
  unfold Gq;rw[hg];simp only;rw[<-Ts];exact Av hl
 unfold H3
 simp only[Aml,hs,hr,ha]
noncomputable def N7.new(n size:Nat)(op:Int):N7:=⟨⟨n,size,op,0,false,fun _=>Zn.empty⟩,[],[]⟩
noncomputable def Mi.new(g:Gm):Mi:=⟨g,N7.new (g.D*g.Z).toNat g.S.toNat g.O,fun _=>[],fun _=>0,-1,-1,0⟩
theorem A2o {g:Gm}(s:Sm g){h0 h:Aa}(hb:HB h){D V M zl m p bl ql:Nat}{z q c:Nat->Nat}(d:V4 h D V M zl (g.D*g.Z).toNat z (fun _=>0) g.S g.O 0 false .Ag .Ag [] (fun _=>Zn.empty))
 (nd:(h0.next<=D/\h0.next<=M)/\h0.next<=V/\h0.next<=zl/\∀ d,d<(g.D*g.Z).toNat->h0.next<=z d) (MA:Vq h m D p bl (g.D*g.Z).toNat g (-1) (-1) 0 (fun _=>0)) (PA:Dj h p ql g.D.toNat q c g (fun _=>[]))
 (nm:(h0.next<=m/\h0.next<=bl)/\h0.next<=p/\h0.next<=ql/\∀ d,d<g.D.toNat->h0.next<=q d/\h0.next<=c d) (le:h0.next<=h.next):H4 h m (Mi.new g) (fun i=>i<h0.next):=by
 have:=s.d0;have:=s.d1;have:=s.z0;have:=s.z1;have:=s.s0;have:=s.s1
 obtain⟨m0,m1⟩:=Un (a:=g.D) (b:=g.Z) (A:=8) (B:=64) (by omega) (by omega) (by omega) (by omega)
 have hdev:=d.dev
 have hzone:∀ i,i<(g.D*g.Z).toNat->∃ s,h.get (z i)=some (.cells [s,I g.S,I 0,I 0,.bool false] 240):=fun i hi=>by
  obtain⟨s,a,_⟩:=(hdev.A2 i hi).A2;exact⟨s,a⟩
 have hF:∀ i,Alv V zl (g.D*g.Z).toNat z (fun _=>0) (fun _=>Zn.empty) i->i=V\/i=zl\/∃ d,d<(g.D*g.Z).toNat/\i=z d:=fun i hi=>by
  rcases hi with y|y|⟨d,hd,y|y⟩
  ·exact .inl y
  ·exact .inr (.inl y)
  ·exact .inr (.inr ⟨d,hd,y⟩)
  ·exact absurd rfl y.1
 have kind:∀ i o,h.get i=some o->(∀ l,o ≠ .cells l 183)->(∀ l,o ≠ .vec l 180 1)->(∀ l,o ≠ .cells l 240)->¬ Alv V zl (g.D*g.Z).toNat z (fun _=>0) (fun _=>Zn.empty) i:=fun i o g1 h1 h2 h3 hi=>by
  rcases hF i hi with y|y|⟨d,hd,y⟩
  ·subst y;rw[hdev.dev]at g1;cases g1;exact h1 _ rfl
  ·subst y;rw[hdev.row]at g1;cases g1;exact h2 _ rfl
  ·subst y
   obtain⟨s,hs⟩:=hzone d hd
   rw[hs]at g1;cases g1;exact h3 _ rfl
 have kindG:∀ i o,h.get i=some o->(∀ l,o ≠ .cells l 183)->(∀ l,o ≠ .vec l 180 1)->(∀ l,o ≠ .cells l 240)->(∀ l,o ≠ .cells l 166)->(∀ l,o ≠ .map l)->¬ (i=D\/i=M\/Alv V zl (g.D*g.Z).toNat z (fun _=>0) (fun _=>Zn.empty) i):=fun i o g1 h1 h2 h3 h4 h5 hi=>by
  rcases hi with y|y|y
  ·subst y;rw[d.Ct]at g1;cases g1;exact h4 _ rfl
  ·subst y;rw[d.marks]at g1;cases g1;exact h5 _ rfl
  ·exact kind i o g1 h1 h2 h3 y
 have lowF:∀ i,Alv V zl (g.D*g.Z).toNat z (fun _=>0) (fun _=>Zn.empty) i->i<h.next/\h0.next<=i:=fun i hi=>by
  rcases hF i hi with y|y|⟨d,hd,y⟩
  ·subst y;exact⟨hb _ _ hdev.dev,nd.2.1⟩
  ·subst y;exact⟨hb _ _ hdev.row,nd.2.2.1⟩
  ·subst y
   obtain⟨s,hs⟩:=hzone d hd
   exact⟨hb _ _ hs,nd.2.2.2 d hd⟩
 have hS:g.S=((g.S.toNat:Nat):Int):=by omega
 have drvS:Ek h D (N7.new (g.D*g.Z).toNat g.S.toNat g.O) (fun i=>i=D\/i=M\/Alv V zl (g.D*g.Z).toNat z (fun _=>0) (fun _=>Zn.empty) i):=by
  have zw:∀ size:Nat,0<size->Zn.empty.Wf size:=fun size hs=>⟨fun x hx=>(by cases hx),by show 0<=4;omega,Nat.le_refl _,Nat.zero_le _,fun _=>hs⟩
  have dw:Dv.Wf ⟨(g.D*g.Z).toNat,g.S.toNat,g.O,0,false,fun _=>Zn.empty⟩:=⟨by show g.S.toNat<=64;omega,by show (g.D*g.Z).toNat<=512;omega,fun i _=>zw _ (by show 0<g.S.toNat;omega)⟩
  refine⟨fun i hi=>?_,⟨by show 0+0<=200;omega,fun e he=>(by cases he),fun e he=>(by cases he)⟩,V,M,0,0,.Ag,.Ag,[],_,d.Ct,d.marks,fun e he=>(by cases he),.nil _ _ _ _,.nil _ _ _ _,⟨dw,fun i hi=>(lowF i hi).1,zl,z,fun _=>0,?_,fun i hi=>hi⟩,⟨fun i hi=>.inr (.inr hi),.inl rfl,.inr (.inl rfl),fun y=>absurd y (Nat.lt_irrefl _),fun y=>absurd y (Nat.lt_irrefl _)⟩,⟨kind _ _ d.Ct (by intros;simp) (by intros;simp) (by intros;simp),kind _ _ d.marks (by intros;simp) (by intros;simp) (by intros;simp),fun y=>absurd y (Nat.lt_irrefl _),fun y=>absurd y (Nat.lt_irrefl _),fun y=>absurd y (Nat.lt_irrefl _)⟩⟩
  ·rcases hi with y|y|y
   ·subst y;exact hb _ _ d.Ct
   ·subst y;exact hb _ _ d.marks
   ·exact(lowF i y).1
  ·show Iz h V zl (g.D*g.Z).toNat z (fun _=>0) ((g.S.toNat:Nat):Int) g.O 0 false (fun _=>Zn.empty)
   rw[<-hS];exact hdev
 refine⟨⟨fun i hi=>hi.1,D,p,bl,ql,g.D.toNat,q,c,_,MA,PA,⟨rfl,s,fun d _=>Nat.zero_le _⟩,drvS,?_,?_⟩,fun i hi=>Nat.lt_of_lt_of_le hi le,{ toWp:=⟨s,fun d _ x hx=>by cases hx⟩,op:=.inl ⟨rfl,rfl⟩ }⟩
 ·have k:=kindG
  exact⟨k _ _ MA.Kb (by intros;simp) (by intros;simp) (by intros;simp) (by intros;simp) (by intros;simp),k _ _ MA.Aik (by intros;simp) (by intros;simp) (by intros;simp) (by intros;simp) (by intros;simp),k _ _ PA.Ft (by intros;simp) (by intros;simp) (by intros;simp) (by intros;simp) (by intros;simp),k _ _ PA.row (by intros;simp) (by intros;simp) (by intros;simp) (by intros;simp) (by intros;simp),
   fun d hd=>⟨k _ _ (PA.que d hd) (by intros;simp) (by intros;simp) (by intros;simp) (by intros;simp) (by intros;simp),k _ _ (PA.chan d hd) (by intros;simp) (by intros;simp) (by intros;simp) (by intros;simp) (by intros;simp)⟩⟩
 ·refine⟨fun i hi=>?_,⟨hb _ _ MA.Kb,by omega⟩,⟨hb _ _ MA.Aik,by omega⟩,⟨hb _ _ PA.Ft,by omega⟩,⟨hb _ _ PA.row,by omega⟩,fun d hd=>⟨⟨hb _ _ (PA.que d hd),by have:=nm.2.2.2 d hd;omega⟩,⟨hb _ _ (PA.chan d hd),by have:=nm.2.2.2 d hd;omega⟩⟩⟩
  rcases hi with y|y|y
  ·subst y;exact⟨hb _ _ d.Ct,by omega⟩
  ·subst y;exact⟨hb _ _ d.marks,by omega⟩
  ·exact⟨(lowF i y).1,by have:=(lowF i y).2;omega⟩
end Go.Ev

namespace Go.Ev
open Go.Proofs
set_option maxRecDepth 100000
variable {K:Nat}{disp:Nat->Option FT}
def z20:List EV:=[EV.Ag]++List.replicate 3 (EV.int .i64 0)++[EV.bool false]++List.replicate 2 EV.Ag++List.replicate 8 (EV.int .i64 0)++List.replicate 2 EV.Ag++List.replicate 3 (EV.int .i64 0)
theorem Ao3(hK:2000<K)(g:Gm){h:Aa}(hb:HB h):Ok (Ge K (gV g) h) fun v h'=>Ext h h'/\HB h'/\∃ l:List EV,l.length=20 /\
 if rtB g=true/\g.D*g.Z<=64 then ∃ m,v=.tuple [.ptr m 0,.agg l,.bool true]/\H4 h' m (Mi.new g) (fun i=>i<h.next) else v=.tuple [.Dx,.agg l,.bool false]:=by
 have hz : [EV.Ag]++List.replicate 3 (EV.int .i64 0)++[EV.bool false]++List.replicate 2 EV.Ag++List.replicate 8 (EV.int .i64 0)++List.replicate 2 EV.Ag++List.replicate 3 (EV.int .i64 0)=z20:=rfl
 have zl:z20.length=20:=rfl
 simp only[Ge,gV,Ab,hz]
 rw[show (h.new (.cells (gL g) 23)).next=h.next+1 from rfl]
 have x1:Ext h ((h.new (.cells (gL g) 23)).new (.cells z20 42)):=(A4.new _ _).Hy _
 have g1:((h.new (.cells (gL g) 23)).new (.cells z20 42)).get h.next=some (.cells (gL g) 23):=by
  rw[Bm _ (Nat.lt_succ_self _)];exact Ae _ _
 have g3:((h.new (.cells (gL g) 23)).new (.cells z20 42)).get (h.next+1)=some (.cells z20 42):=Ae _ _
 have n1:((h.new (.cells (gL g) 23)).new (.cells z20 42)).next=h.next+2:=rfl
 generalize (h.new (.cells (gL g) 23)).new (.cells z20 42)=h1 at x1 g1 g3 n1 ⊢
 have hb1:=x1.hb hb
 rw[F4 g1 rfl,Av (n:=6) rfl]
 try simp only[Ab]
 refine Ok.st (gL g) (Ae _ _) rfl rfl (Cd rfl) ?_
 have x2:Ext h1 ((h1.new (.cells [EV.int .i64 0,.int .i64 0,.int .i64 0,.int .i64 0,.int .i64 0,.int .i64 0] 37)).put h1.next (.cells (gL g) 37)):=(A4.new h1 _:Ext _ _).A8 (.inr (Nat.le_refl _)) (Nat.lt_succ_self _) _
 have g5:((h1.new (.cells [EV.int .i64 0,.int .i64 0,.int .i64 0,.int .i64 0,.int .i64 0,.int .i64 0] 37)).put h1.next (.cells (gL g) 37)).get h1.next=some (.cells (gL g) 37):=Aj _ _ _
 generalize (h1.new (.cells [EV.int .i64 0,.int .i64 0,.int .i64 0,.int .i64 0,.int .i64 0,.int .i64 0] 37)).put h1.next (.cells (gL g) 37)=h2 at x2 g5 ⊢
 have hb2:=x2.hb hb1
 rw[F4 g5 rfl,Av (n:=6) rfl]
 try simp only[Ab]
 rw[show EV.agg (gL g)=gV g from rfl]
 refine(Ayc g (by omega) h2).Al ?_
 rintro _ h3 ⟨rfl,x3⟩
 have hb3:=x3.hb hb2
 have x03:Ext h h3:=(x1.trans x2).trans x3
 have x13:Ext h1 h3:=x2.trans x3
 have no:∀ h4,Ext h3 h4->¬ (rtB g=true/\g.D*g.Z<=64)->Ok (C0 (Gk [(0,7),(7,6),(13,3),(16,1),(17,1),(18,1),(19,1)]) z20 [] fun v22=>Jf 20 (.ptr (h.next+1) 0) v22 h4 fun h=>H3 TT [.v .Dx,.c (.ptr (h1.next-1) 0) 42,.v (.bool false)] h) fun v h'=>Ext h h'/\HB h'/\∃ l:List EV,l.length=20 /\
  if rtB g=true/\g.D*g.Z<=64 then ∃ m,v=.tuple [.ptr m 0,.agg l,.bool true]/\H4 h' m (Mi.new g) (fun i=>i<h.next) else v=.tuple [.Dx,.agg l,.bool false]:=by
  intro h4 x4 hn
  have hb4:=x4.hb hb3
  have g34:=x4.at hb3 (x13.at hb1 g3)
  have l3:=hb4 _ _ g34
  rw[Cu (l:=z20) rfl]
  refine Ok.st z20 g34 rfl rfl (Cd rfl) ?_
  rw[show h1.next-1=h.next+1 by omega,Arh (Aj _ _ _) Av3.1 Av3.2 rfl]
  refine .ret ⟨(x03.trans x4).A8 (.inr (by omega)) l3 _,hb4.put l3 _,z20,rfl,?_⟩
  rw[if_neg hn]
 rw[show h1.next-1=h.next+1 by omega]at no
 cases hr:rtB g with
 | false=>
  simp only[Ab,Ad,E1,hz]
  have:=no h3 (A4.refl _) (by rw[hr];simp)
  rw[hr]at this
  exact this
 | true=>
  have s:=Adr hr
  have:=s.d0;have:=s.d1;have:=s.z0;have:=s.z1;have:=s.s0;have:=s.s1;have:=s.o0;have:=s.o1
  obtain⟨m0,m1⟩:=Un (a:=g.D) (b:=g.Z) (A:=8) (B:=64) (by omega) (by omega) (by omega) (by omega)
  have m2:3<=g.D*g.Z:=by
   have:3*1<=g.D*g.Z:=Int.mul_le_mul (by omega) (by omega) (by omega) (by omega)
   omega
  have g13:=x13.at hb1 g1
  simp only[Ab,Ad,B2 g13 rfl,gL,I]
  rw[C6 (by omega) (by omega)]
  by_cases h64:64<g.D*g.Z
  ·have hn:¬ (rtB g=true/\g.D*g.Z<=64):=fun y=>by omega
   have:=no h3 (A4.refl _) hn
   rw[hr]at this
   simp only[h64,decide_true,Ab,E1,hz]
   simpa using this
  ·have hy:rtB g=true/\g.D*g.Z<=64:=⟨hr,by omega⟩
   simp only[h64,decide_false,Ab,E1,N9,B2 g13 rfl,gL,I,Ad]
   rw[C6 (by omega) (by omega)]
   have hd:Ab4 (g.D*g.Z) g.S g.O=true:=by
    unfold Ab4
    rw[Iy.2 ⟨by omega,by omega⟩,Iy.2 ⟨by omega,by omega⟩,Iy.2 ⟨by omega,by omega⟩];rfl
   refine(Aod (K:=K) hd (by omega) hb3).Al ?_
   rintro _ h4 ⟨D,V,M,zl',z,rfl,x4,hb4,dr,nd⟩
   have g14:=x4.at hb3 g13
   have g34:=x4.at hb3 (x13.at hb1 g3)
   have g54:=x4.at hb3 (x3.at hb2 g5)
   simp only[Ab,I,Ad,not_true_eq_false,decide_false,Ob,Bo]
   have l14:=hb4 _ _ g14
   rw[Aq l14 (by kernel_rfl),F4 g14 rfl,Av (n:=6) rfl]
   try simp only[Ab,Bo]
   rw[Ra (v:=Aah) (by kernel_rfl) (by kernel_rfl) rfl]
   have dr':V4 h4.lift D V M zl' (g.D*g.Z).toNat z (fun _=>0) g.S g.O 0 false .Ag .Ag [] (fun _=>Zn.empty):=dr.ext fun i o g=>by rw[Dg];exact g
   refine Ok.Cs (by kernel_rfl) (by kernel_rfl) (Al7 (K:=K) (g:=g) (by omega) (Hu hb4) dr') (fun _ _ p=>p.1) ?_
   rintro v h5' h5 ⟨_,hb5',hv⟩ sm x5
   have hb5:=x5.hb hb4
   rw[if_pos ⟨hr,by omega,rfl⟩]at hv
   obtain⟨m,p,bl,ql,q,c,rfl,MA,PA,nm⟩:=hv
   have k5:∀ i o,h5'.get i=some o->h5.get i=some o:=fun i o g=>by rw[sm.get];exact g
   have MA:=MA.ext k5
   have PA:=PA.ext k5
   have M5:=A2o s (h0:=h3) hb5 (dr.ext fun i o g=>x5.at hb4 g) nd MA PA (by
    have t2:=x4.next
    have t3:h4.lift.next=h4.next:=rfl
    exact⟨⟨by omega,by omega⟩,by omega,by omega,fun d hd=>by have:=nm.2.2.2 d hd;omega⟩) (by have:=x4.next;have:=x5.next;omega)
   have g15:=x5.at hb4 g14
   have g35:=x5.at hb4 g34
   have g55:=x5.at hb4 g54
   have l15:=hb5 _ _ g15
   have l55:=hb5 _ _ g55
   simp only[Ab,I,Ad,not_true_eq_false,decide_false]
   rw[show ∀ k:EV->R,Ap Gj (bin TT .eql 29) (.ptr m 0) .Dx k=k (.bool false) from fun k=>by kernel_rfl]
   simp only[Jc,Ab,N6,Bo]
   rw[Aq l15 (by kernel_rfl),Ce g15 rfl (v:=I g.D) rfl]
   try simp only[Ab,Bo]
   rw[Aq l15 (by kernel_rfl),Ce g15 rfl (v:=I g.Z) rfl]
   simp only[Ab,Bo,I,Ad]
   rw[Aq l15 (by kernel_rfl),Ce g15 rfl (v:=I g.S) rfl]
   try simp only[Ab,Bo]
   rw[Aq l15 (by kernel_rfl),Ce g15 rfl (v:=I g.O) rfl]
   try simp only[Ab,Bo]
   rw[C6 (by omega) (by omega)]
   have hn:(EV.int .i64 (g.D*g.Z))=I (((g.D*g.Z).toNat:Nat):Int):=by unfold I;congr 1;omega
   rw[hn]
   refine Ok.Cs (by kernel_rfl) (by kernel_rfl) (Aom (K:=K) (n:=(g.D*g.Z).toNat) (size:=g.S) (op:=g.O) (by omega) hK (Hu hb5)) (fun _ _ p=>by obtain⟨_,_,x,_⟩:=p;exact x) ?_
   rintro _ h6' h6 ⟨sl,rfl,_,_⟩ _ x6
   have hb6:=x6.hb hb5
   rw[Cu (l:=[sl,I g.S,I g.O,I 0,.bool false,.Ag,.Ag]) rfl]
   have g56:=x6.at hb5 g55
   have l56:=hb6 _ _ g56
   try simp only[Ab,Bo]
   rw[Aq l55 (by kernel_rfl),F4 g56 rfl,Av (n:=6) rfl]
   try simp only[Ab,Bo]
   refine Ok.Cs (by kernel_rfl) (by kernel_rfl) (Apl (K:=K) (s:=sl) (size:=g.S) (op:=g.O) (g:=g) (Hu hb6)) (fun _ _ p=>p.2.1) ?_
   rintro _ h7' h7 ⟨rfl,_,_⟩ _ x7
   have hb7:=x7.hb hb6
   have g37:=x7.at hb6 (x6.at hb5 g35)
   have l37:=hb7 _ _ g37
   have x57:Ext h5 h7:=x6.trans x7
   rw[Rd (by kernel_rfl)]
   refine Ok.st (Ag8 sl g.S g.O g) g37 rfl rfl (Cd rfl) ?_
   rw[Arh (Aj _ _ _) Av3.1 Av3.2 rfl]
   have x07:Ext h h7:=((x03.trans x4).trans x5).trans x57
   refine .ret ⟨x07.A8 (.inr (by omega)) l37 _,hb7.put l37 _,Ag8 sl g.S g.O g,rfl,?_⟩
   rw[if_pos (by simpa using hy.2)]
   refine⟨m,rfl,?_⟩
   have c8:A4 (fun i=>i=h.next+1) h7 (h7.put (h.next+1) (.cells (Ag8 sl g.S g.O g) 42)):=(A4.refl (S:=fun i=>i=h.next+1) h7).A8 (.inl rfl) l37 _
   have t3:=x13.next
   have M8:=((M5.ext hb5 x57).less fun i (hi:i<h3.next)=>Or.inl hi).Atb c8 fun i hi _=>by
    have hi:i=h.next+1:=hi
    omega
   exact M8.less fun i hi=>by omega
end Go.Ev

namespace Go.Ev
open Go.Proofs
set_option maxRecDepth 100000
variable {K:Nat}{disp:Nat->Option FT}
def EOk(e:En)(Ax seq:Int):Prop:=(G2 e 0 0 Ax seq).2=0
structure Calm(S:Mi):Prop where
 wf:S.Wf
 rt:rtB S.g=true
 ev:S.dr.ev = []
 up:S.dr.dv.down=false
 n:S.dr.dv.n=(S.g.D*S.g.Z).toNat
 size:S.dr.dv.size=S.g.S.toNat
 op:S.dr.dv.op=S.g.O
 bad:∀ i,¬ S.bad i=1
 nd:∀ d,d<S.g.D.toNat->(S.ps d).Nodup
 fr:∀ d,d<S.g.D.toNat->∀ x ∈ S.ps d,(S.dr.dv.zs x.toNat).l = []/\(S.dr.dv.zs x.toNat).st=0
 opn:(S.a = -1/\S.b = -1)\/(0<=De S.g S.a/\0<=De S.g S.b/\¬ De S.g S.a=De S.g S.b/\0<=S.u/\S.u<=S.g.S /\
  (∀ d,d<S.g.D.toNat->S.a ∉ S.ps d/\S.b ∉ S.ps d)/\(∀ z,z=S.a\/z=S.b->((S.dr.dv.zs z.toNat).l.length:Int)=S.u/\(S.dr.dv.zs z.toNat).st=if S.u=S.g.S then 2 else if S.u=0 then 0 else 1))
 few:∀ i,i<S.dr.dv.n->(S.dr.dv.zs i).st=1->(i:Int)=S.a\/(i:Int)=S.b
end Go.Ev

namespace Go.Ev
open Go.Proofs
set_option maxRecDepth 100000
variable {K:Nat}{disp:Nat->Option FT}
noncomputable def Mi.Afr(S:Mi)(z:Int):Mi:={ S with ps:=(Rr S.g S.g.D.toNat S.ps z).2 }
theorem Mi.Wf.Afr {S:Mi}(w:S.Wf){z:Int}(hz:0<=De S.g z->¬ S.bad z.toNat=1):(S.Afr z).Wf:={ toWp:=⟨w.sm,Ano w.ps _ _ hz⟩,op:=w.op }
section
variable {h:Aa}{m:Nat}{S:Mi}{F:Nat->Prop}(M:H4 h m S F)(hb:HB h)
include M
include hb
theorem Az7(A:Au disp)(hK:10000<K):∃ p,G6 K (.ptr m 0) h=some (.ptr p 0,h)/\∀ {d:Nat},8<=d->∀ {z:Int},Rng z->(0<=De S.g z->¬ S.bad z.toNat=1) ->
 Ok (Af TT disp K d false 15 [.ptr p 0,I z] h) fun v h'=>v=I (Rr S.g S.g.D.toNat S.ps z).1/\H4 h' m (S.Afr z) F/\Kf F h h'/\HB h':=by
 obtain⟨lt,D,p,bl,ql,np,q,c,G,a⟩:=M.s
 refine⟨p,Aku a.Kb,fun {d} hd {z} hz nb=>?_⟩
 have hnp:=a.psz.nd
 subst hnp
 refine(Av0 (K:=K) A a.Ft hb a.psz (by omega) hd z hz).mono ?_
 rintro v h' ⟨c3,hb3,rfl,P3,Z3⟩
 obtain⟨a3,cH⟩:=a.Afe hb P3 Z3 c3
 obtain⟨M3,k3⟩:=M.made (N3.mono (H:=Out F h) ⟨fun i hi=>Nat.lt_of_lt_of_le hi.1 cH.next,D,p,bl,ql,_,q,c,G,a3⟩ (fun _=>.inl) (Bc.lt lt cH.next)) cH (M.wf.Afr nb)
 exact⟨rfl,M3,k3,hb3⟩
end
structure Ane(S:Mi):Prop where
 calm:Calm S
 cl:S.a = -1/\S.b = -1
 zs:∀ i,S.dr.dv.zs i=Zn.empty
theorem Ax9 {g:Gm}(hr:rtB g=true):Ane (Mi.new g):=by
 have s:=Adr hr
 refine⟨⟨{ toWp:=⟨s,fun d _ x hx=>(by cases hx)⟩,op:=.inl ⟨rfl,rfl⟩ },hr,rfl,rfl,rfl,rfl,rfl,fun i y=>(by cases y),fun d _=>List.nodup_nil,fun d _ x hx=>(by cases hx),.inl ⟨rfl,rfl⟩,fun i _ y=>(by cases y)⟩,⟨rfl,rfl⟩,fun _=>rfl⟩
theorem Ane.Afr {S:Mi}(f:Ane S)(z:Int):Ane (S.Afr z):=by
 have c:=f.calm
 have nd:∀ d,d<S.g.D.toNat->((S.Afr z).ps d).Nodup:=fun d hd=>by
  show ((Rr S.g S.g.D.toNat S.ps z).2 d).Nodup
  unfold Rr
  split
  ·exact c.nd d hd
  ·split
   ·exact c.nd d hd
   ·rename_i h0 hh
    split
    ·simp only[upd]
     split
     ·rename_i e
      rw[List.nodup_append]
      refine⟨by rw[<-e];exact c.nd d hd,by simp,fun a ha b hb y=>?_⟩
      rw[List.mem_singleton.1 hb]at y
      subst y
      exact hh (Agv.2 ⟨d,hd,by rw[e];exact ha⟩)
     ·exact c.nd d hd
    ·exact c.nd d hd
 refine⟨⟨c.wf.Afr fun _=>c.bad _,c.rt,c.ev,c.up,c.n,c.size,c.op,c.bad,nd,fun d hd x hx=>?_,.inl f.cl,c.few⟩,f.cl,f.zs⟩
 show (S.dr.dv.zs x.toNat).l = []/\(S.dr.dv.zs x.toNat).st=0
 rw[f.zs];exact⟨rfl,rfl⟩
end Go.Ev
