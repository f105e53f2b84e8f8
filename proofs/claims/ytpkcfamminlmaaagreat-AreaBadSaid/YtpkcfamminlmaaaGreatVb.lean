import Derived.Test.YtpkcfamminlmaaaGreatVa
import Derived.Test.YtpkcfamminlmaaaGreatXb
set_option linter.unusedVariables false
set_option linter.unusedSimpArgs false
set_option linter.unusedSectionVars false
namespace Go.Ev
open Go.Proofs
set_option maxRecDepth 100000
variable {K:Nat}{disp:Nat->Option FT}
end Go.Ev

namespace Go.Ev
open Go.Proofs
set_option maxRecDepth 100000
variable {K:Nat}{disp:Nat->Option FT}
section
variable (A:An disp)(hK:10000<K){d:Nat}(hd:20<=d){h:Aa}{m b3 b4:Nat}{S:Mi}{F:Nat->Prop}(M:Er h m S F)(hb:HB h)(x:Me)
include A hK hd M hb
end
section
variable (A:An disp)(hK:10000<K){d:Nat}(hd:20<=d){h:Aa}{m b3 b4 b7:Nat}{S:Mi}{F:Nat->Prop}(M:Er h m S F)(hb:HB h)(x:Me)
include A hK hd M hb
end
end Go.Ev

namespace Go.Ev
open Go.Proofs
set_option maxRecDepth 100000
variable {K:Nat}{disp:Nat->Option FT}
theorem A81:TT.size 33=some 5/\TT.agg 33=some true:=⟨by kernel_rfl,by kernel_rfl⟩
theorem A7l:TT.size 42=some 20/\TT.agg 42=some true:=⟨by kernel_rfl,by kernel_rfl⟩
theorem Avn {h0:Aa}{b6 b7 n:Nat}{size op:Int}(l6:h0.next<=b6)(l67:b6<b7)(hn:n<=1000):∀ (m i:Nat) (h:Aa) (s:EV) (q:Nat) (l:List EV),n-i<m->i<=n->HB h->Ext h0 h->h.get b6=some (.cells [.Af,.int .i64 0,.int .i64 0,.int .i64 0,.bool false] 33) ->
 h.get b7=some (.cells [s,I size,I op,.int .i64 0,.bool false] 33)->Bz h s q 215 4 i l->(0<i->b7<q) ->
 Ok (C2 K m (I n) (.ptr b6 0) (.ptr b7 0) (.int .i64 (i:Int)) h) fun v h'=>∃ s,v=.agg [s,I size,I op,I 0,.bool false]/\Ext h0 h'/\HB h':=by
 intro m
 induction m with
 | zero=>intro i h s q l hm;omega
 | succ m ih=>
  intro i h s q l hm hi hb x g6 g7 r hq
  have l7:=hb _ _ g7
  simp only[C2,I,Ah]
  by_cases hlt:(i:Int)<n
  ·simp only[hlt,decide_true,Ab,Qw,Cl g7 rfl]
   rw[Ca (l:=[.Af,.int .i64 0,.int .i64 0,.bool false]) rfl]
   refine Ml (z:=[.Af,.int .i64 0,.int .i64 0,.bool false]) r hb rfl rfl rfl (by omega) (by omega) ?_
   intro h2 r2 n2 c2
   have nq:∀ {j o},h.get j=some o->(∀ l,o ≠ .vec l 215 4)->¬ (0<i/\j=q):=fun gj ho y=>by
    have:=r.block y.1
    rw[y.2,this]at gj;cases gj;exact ho _ rfl
   have hb2:=c2.hb hb
   have x2:Ext h0 h2:=x.then c2 fun j hj hl=>by
    have:=hq hj.1;omega
   have g62:=c2.at hb g6 (nq g6 (by intros;simp))
   have g72:=c2.at hb g7 (nq g7 (by intros;simp))
   have l72:=hb2 _ _ g72
   try simp only[Ab]
   refine Ok.st1 g72 rfl rfl (by show 0<5;decide) ?_
   simp only[List.set,Q4,Ah]
   rw[Cx (by omega) (by omega)]
   have hs:(EV.slice (h.next+1) 0 (i+1) (i+1) true)=.slice (h.next+1) 0 (i+1) (i+1) true:=rfl
   refine ih (i+1) _ _ (h.next+1) _ (by omega) (by omega) (hb2.put l72 _) (x2.Az (.inr (by omega)) l72 _) ?_ (Ai _ _ _) (r2.frame fun _=>Al _ ?_) (fun _=>by omega)
   ·rw[Al _ (by omega)];exact g62
   ·omega
  ·simp only[hlt,decide_false,Ab,Lv]
   rw[Gf g7 rfl,Ax (n:=5) rfl]
   try simp only[Ab]
   have l6':=hb _ _ g6
   refine Ok.st [s,I size,I op,.int .i64 0,.bool false] g6 rfl rfl (Gc rfl) ?_
   rw[Ls (Ai _ _ _) A81.1 A81.2 rfl]
   exact .ret ⟨s,rfl,x.Az (.inr l6) l6' _,hb.put l6' _⟩
theorem Aqb {n:Nat}{size op:Int}(hn:n<=1000)(hK:2000<K){h:Aa}(hb:HB h):Ok (Ku K (I n) (I size) (I op) h) fun v h'=>∃ s,v=.agg [s,I size,I op,I 0,.bool false]/\Ext h h'/\HB h':=by
 simp only[Ku,Ab]
 rw[Ca (l:=[.Af,I size,I op,.int .i64 0,.bool false]) rfl]
 refine Ok.st [.Af,I size,I op,.int .i64 0,.bool false] (Ae _ _) rfl rfl (Gc rfl) ?_
 have g6:((h.new (.cells [.Af,.int .i64 0,.int .i64 0,.int .i64 0,.bool false] 33)).new (.cells [.Af,.int .i64 0,.int .i64 0,.int .i64 0,.bool false] 33)).get h.next=some (.cells [.Af,.int .i64 0,.int .i64 0,.int .i64 0,.bool false] 33):=by
  rw[Bj _ (Nat.lt_succ_self _)];exact Ae _ _
 have x1:Ext h ((h.new (.cells [.Af,.int .i64 0,.int .i64 0,.int .i64 0,.bool false] 33)).new (.cells [.Af,.int .i64 0,.int .i64 0,.int .i64 0,.bool false] 33)):=(A1.new _ _).Gg _
 have n1:((h.new (.cells [.Af,.int .i64 0,.int .i64 0,.int .i64 0,.bool false] 33)).new (.cells [.Af,.int .i64 0,.int .i64 0,.int .i64 0,.bool false] 33)).next=h.next+2:=rfl
 rw[show (h.new (.cells [.Af,.int .i64 0,.int .i64 0,.int .i64 0,.bool false] 33)).next=h.next+1 from rfl]
 generalize (h.new (.cells [.Af,.int .i64 0,.int .i64 0,.int .i64 0,.bool false] 33)).new (.cells [.Af,.int .i64 0,.int .i64 0,.int .i64 0,.bool false] 33)=h1 at g6 x1 n1 ⊢
 have l7:h.next+1<h1.next:=by omega
 refine Avn (h0:=h) (b6:=h.next) (b7:=h.next+1) (n:=n) (size:=size) (op:=op) (Nat.le_refl _) (by omega) hn K 0 _ .Af 0 [] (by omega) (by omega) ((x1.hb hb).put l7 _) (x1.Az (.inr (by omega)) l7 _) ?_ (Ai _ _ _) (.nil _ _ _ _) (fun y=>absurd y (Nat.lt_irrefl _))
 rw[Al _ (by omega)];exact g6
def Nc(s:EV)(size op:Int)(g:Gm):List EV:=[s,I size,I op,I 0,.bool false,.Af,.Af]++gL g++[I g.D,I g.Z,.Af,.Af,I (-1),I (-1),I 0]
theorem Are {s:EV}{size op:Int}{g:Gm}{h:Aa}(hb:HB h):Ok (Kx K (.agg [s,I size,I op,I 0,.bool false,.Af,.Af]) (gV g) h) fun v h'=>v=.agg (Nc s size op g)/\Ext h h'/\HB h':=by
 simp only[Kx,gV,Ab]
 rw[show (h.new (.cells [s,I size,I op,I 0,.bool false,.Af,.Af] 36)).next=h.next+1 from rfl]
 rw[show ((h.new (.cells [s,I size,I op,I 0,.bool false,.Af,.Af] 36)).new (.cells (gL g) 37)).next=h.next+2 from rfl]
 generalize hz:([EV.Af]++List.replicate 3 (EV.int .i64 0)++[EV.bool false]++List.replicate 2 EV.Af++List.replicate 8 (EV.int .i64 0)++List.replicate 2 EV.Af++List.replicate 3 (EV.int .i64 0))=z20
 have x1:Ext h (((h.new (.cells [s,I size,I op,I 0,.bool false,.Af,.Af] 36)).new (.cells (gL g) 37)).new (.cells z20 42)):=((A1.new _ _).Gg _).Gg _
 have g2:(((h.new (.cells [s,I size,I op,I 0,.bool false,.Af,.Af] 36)).new (.cells (gL g) 37)).new (.cells z20 42)).get h.next=some (.cells [s,I size,I op,I 0,.bool false,.Af,.Af] 36):=by
  rw[Bj _ (by show h.next<h.next+1+1;omega),Bj _ (Nat.lt_succ_self _)];exact Ae _ _
 have g3:(((h.new (.cells [s,I size,I op,I 0,.bool false,.Af,.Af] 36)).new (.cells (gL g) 37)).new (.cells z20 42)).get (h.next+1)=some (.cells (gL g) 37):=by
  rw[Bj _ (by show h.next+1<h.next+1+1;omega)];exact Ae _ _
 have g4:(((h.new (.cells [s,I size,I op,I 0,.bool false,.Af,.Af] 36)).new (.cells (gL g) 37)).new (.cells z20 42)).get (h.next+2)=some (.cells z20 42):=Ae _ _
 generalize ((h.new (.cells [s,I size,I op,I 0,.bool false,.Af,.Af] 36)).new (.cells (gL g) 37)).new (.cells z20 42)=h1 at x1 g2 g3 g4 ⊢
 have hb1:=x1.hb hb
 rw[Gf g2 rfl,Ax (n:=7) rfl]
 try simp only[Ab]
 rw[Gf g3 rfl,Ax (n:=6) rfl]
 simp only[Cl g3 rfl,gL,Ab,I]
 rw[Ca (l:=[.int .i64 g.D,.int .i64 g.Z,.Af]) rfl]
 subst hz
 rw[Ca (l:=Nc s size op g) rfl]
 have l4:=hb1 _ _ g4
 refine Ok.st (Nc s size op g) g4 rfl rfl (Gc rfl) ?_
 rw[Ls (Ai _ _ _) A7l.1 A7l.2 rfl]
 exact .ret ⟨rfl,x1.Az (.inr (by omega)) l4 _,hb1.put l4 _⟩
noncomputable def I8.new(n size:Nat)(op:Int):I8:=⟨⟨n,size,op,0,false,fun _=>Zn.empty⟩,[],[]⟩
noncomputable def Mi.new(g:Gm):Mi:=⟨g,I8.new (g.D*g.Z).toNat g.S.toNat g.O,fun _=>[],fun _=>0,-1,-1,0⟩
theorem A4i {g:Gm}(s:Sm g){h0 h:Aa}(hb:HB h){D V M zl m p bl ql:Nat}{z q c:Nat->Nat}(d:Wm h D V M zl (g.D*g.Z).toNat z (fun _=>0) g.S g.O 0 false .Af .Af [] (fun _=>Zn.empty))
 (nd:(h0.next<=D/\h0.next<=M)/\h0.next<=V/\h0.next<=zl/\∀ d,d<(g.D*g.Z).toNat->h0.next<=z d) (MA:Tp h m D p bl (g.D*g.Z).toNat g (-1) (-1) 0 (fun _=>0)) (PA:E6 h p ql g.D.toNat q c g (fun _=>[]))
 (nm:(h0.next<=m/\h0.next<=bl)/\h0.next<=p/\h0.next<=ql/\∀ d,d<g.D.toNat->h0.next<=q d/\h0.next<=c d) (le:h0.next<=h.next):Er h m (Mi.new g) (fun i=>i<h0.next):=by
 have:=s.d0;have:=s.d1;have:=s.z0;have:=s.z1;have:=s.s0;have:=s.s1
 obtain⟨m0,m1⟩:=S7 (a:=g.D) (b:=g.Z) (A:=8) (B:=64) (by omega) (by omega) (by omega) (by omega)
 have hdev:=d.dev
 have hzone:∀ i,i<(g.D*g.Z).toNat->∃ s,h.get (z i)=some (.cells [s,I g.S,I 0,I 0,.bool false] 240):=fun i hi=>by
  obtain⟨s,a,_⟩:=(hdev.B4 i hi).B4;exact⟨s,a⟩
 have hF:∀ i,Ani V zl (g.D*g.Z).toNat z (fun _=>0) (fun _=>Zn.empty) i->i=V\/i=zl\/∃ d,d<(g.D*g.Z).toNat/\i=z d:=fun i hi=>by
  rcases hi with y|y|⟨d,hd,y|y⟩
  ·exact .inl y
  ·exact .inr (.inl y)
  ·exact .inr (.inr ⟨d,hd,y⟩)
  ·exact absurd rfl y.1
 have kind:∀ i o,h.get i=some o->(∀ l,o ≠ .cells l 183)->(∀ l,o ≠ .vec l 180 1)->(∀ l,o ≠ .cells l 240)->¬ Ani V zl (g.D*g.Z).toNat z (fun _=>0) (fun _=>Zn.empty) i:=fun i o g1 h1 h2 h3 hi=>by
  rcases hF i hi with y|y|⟨d,hd,y⟩
  ·subst y;rw[hdev.dev]at g1;cases g1;exact h1 _ rfl
  ·subst y;rw[hdev.row]at g1;cases g1;exact h2 _ rfl
  ·subst y
   obtain⟨s,hs⟩:=hzone d hd
   rw[hs]at g1;cases g1;exact h3 _ rfl
 have kindG:∀ i o,h.get i=some o->(∀ l,o ≠ .cells l 183)->(∀ l,o ≠ .vec l 180 1)->(∀ l,o ≠ .cells l 240)->(∀ l,o ≠ .cells l 166)->(∀ l,o ≠ .map l)->¬ (i=D\/i=M\/Ani V zl (g.D*g.Z).toNat z (fun _=>0) (fun _=>Zn.empty) i):=fun i o g1 h1 h2 h3 h4 h5 hi=>by
  rcases hi with y|y|y
  ·subst y;rw[d.Cz]at g1;cases g1;exact h4 _ rfl
  ·subst y;rw[d.marks]at g1;cases g1;exact h5 _ rfl
  ·exact kind i o g1 h1 h2 h3 y
 have lowF:∀ i,Ani V zl (g.D*g.Z).toNat z (fun _=>0) (fun _=>Zn.empty) i->i<h.next/\h0.next<=i:=fun i hi=>by
  rcases hF i hi with y|y|⟨d,hd,y⟩
  ·subst y;exact⟨hb _ _ hdev.dev,nd.2.1⟩
  ·subst y;exact⟨hb _ _ hdev.row,nd.2.2.1⟩
  ·subst y
   obtain⟨s,hs⟩:=hzone d hd
   exact⟨hb _ _ hs,nd.2.2.2 d hd⟩
 have hS:g.S=((g.S.toNat:Nat):Int):=by omega
 have drvS:Ew h D (I8.new (g.D*g.Z).toNat g.S.toNat g.O) (fun i=>i=D\/i=M\/Ani V zl (g.D*g.Z).toNat z (fun _=>0) (fun _=>Zn.empty) i):=by
  have zw:∀ size:Nat,0<size->Zn.empty.Wf size:=fun size hs=>⟨fun x hx=>(by cases hx),by show 0<=4;omega,Nat.le_refl _,Nat.zero_le _,fun _=>hs⟩
  have dw:Dv.Wf ⟨(g.D*g.Z).toNat,g.S.toNat,g.O,0,false,fun _=>Zn.empty⟩:=⟨by show g.S.toNat<=64;omega,by show (g.D*g.Z).toNat<=512;omega,fun i _=>zw _ (by show 0<g.S.toNat;omega)⟩
  refine⟨fun i hi=>?_,⟨by show 0+0<=200;omega,fun e he=>(by cases he),fun e he=>(by cases he)⟩,V,M,0,0,.Af,.Af,[],_,d.Cz,d.marks,fun e he=>(by cases he),.nil _ _ _ _,.nil _ _ _ _,⟨dw,fun i hi=>(lowF i hi).1,zl,z,fun _=>0,?_,fun i hi=>hi⟩,⟨fun i hi=>.inr (.inr hi),.inl rfl,.inr (.inl rfl),fun y=>absurd y (Nat.lt_irrefl _),fun y=>absurd y (Nat.lt_irrefl _)⟩,⟨kind _ _ d.Cz (by intros;simp) (by intros;simp) (by intros;simp),kind _ _ d.marks (by intros;simp) (by intros;simp) (by intros;simp),fun y=>absurd y (Nat.lt_irrefl _),fun y=>absurd y (Nat.lt_irrefl _),fun y=>absurd y (Nat.lt_irrefl _)⟩⟩
  ·rcases hi with y|y|y
   ·subst y;exact hb _ _ d.Cz
   ·subst y;exact hb _ _ d.marks
   ·exact(lowF i y).1
  ·show Ij h V zl (g.D*g.Z).toNat z (fun _=>0) ((g.S.toNat:Nat):Int) g.O 0 false (fun _=>Zn.empty)
   rw[<-hS];exact hdev
 refine⟨⟨fun i hi=>hi.1,D,p,bl,ql,g.D.toNat,q,c,_,MA,PA,⟨rfl,s,fun d _=>Nat.zero_le _⟩,drvS,?_,?_⟩,fun i hi=>Nat.lt_of_lt_of_le hi le,{ toWp:=⟨s,fun d _ x hx=>by cases hx⟩,op:=.inl ⟨rfl,rfl⟩ }⟩
 ·have k:=kindG
  exact⟨k _ _ MA.Pp (by intros;simp) (by intros;simp) (by intros;simp) (by intros;simp) (by intros;simp),k _ _ MA.Akm (by intros;simp) (by intros;simp) (by intros;simp) (by intros;simp) (by intros;simp),k _ _ PA.Fe (by intros;simp) (by intros;simp) (by intros;simp) (by intros;simp) (by intros;simp),k _ _ PA.row (by intros;simp) (by intros;simp) (by intros;simp) (by intros;simp) (by intros;simp),
   fun d hd=>⟨k _ _ (PA.que d hd) (by intros;simp) (by intros;simp) (by intros;simp) (by intros;simp) (by intros;simp),k _ _ (PA.chan d hd) (by intros;simp) (by intros;simp) (by intros;simp) (by intros;simp) (by intros;simp)⟩⟩
 ·refine⟨fun i hi=>?_,⟨hb _ _ MA.Pp,by omega⟩,⟨hb _ _ MA.Akm,by omega⟩,⟨hb _ _ PA.Fe,by omega⟩,⟨hb _ _ PA.row,by omega⟩,fun d hd=>⟨⟨hb _ _ (PA.que d hd),by have:=nm.2.2.2 d hd;omega⟩,⟨hb _ _ (PA.chan d hd),by have:=nm.2.2.2 d hd;omega⟩⟩⟩
  rcases hi with y|y|y
  ·subst y;exact⟨hb _ _ d.Cz,by omega⟩
  ·subst y;exact⟨hb _ _ d.marks,by omega⟩
  ·exact⟨(lowF i y).1,by have:=(lowF i y).2;omega⟩
end Go.Ev

namespace Go.Ev
open Go.Proofs
set_option maxRecDepth 100000
variable {K:Nat}{disp:Nat->Option FT}
def z20:List EV:=[EV.Af]++List.replicate 3 (EV.int .i64 0)++[EV.bool false]++List.replicate 2 EV.Af++List.replicate 8 (EV.int .i64 0)++List.replicate 2 EV.Af++List.replicate 3 (EV.int .i64 0)
end Go.Ev

namespace Go.Ev
open Go.Proofs
set_option maxRecDepth 100000
variable {K:Nat}{disp:Nat->Option FT}
theorem Ao5 {zs:Nat->Zn}{a b:Nat}:∀ n,(∀ i,i<n->(zs i).st=1->i=a\/i=b)->Pg zs n<=(if a<n then 1 else 0)+(if b<n then 1 else 0)
 | 0,_=>by unfold Pg;simp
 | n+1,h=>by
  rw[Alm]
  have ih:=Ao5 n fun i hi=>h i (by omega)
  by_cases h1:(zs n).st=1
  ·rw[if_pos h1]
   rcases h n (Nat.lt_succ_self _) h1 with y|y
   ·subst y
    rw[if_neg (Nat.lt_irrefl _)]at ih
    rw[if_pos (Nat.lt_succ_self _)]
    have:(if b<n then 1 else 0)<=(if b<n+1 then 1 else 0):=by split <;> split <;> omega
    omega
   ·subst y
    rw[if_neg (Nat.lt_irrefl n)]at ih
    rw[if_pos (Nat.lt_succ_self n)]
    have:(if a<n then 1 else 0)<=(if a<n+1 then 1 else 0):=by split <;> split <;> omega
    omega
  ·rw[if_neg h1]
   have t1:(if b<n then 1 else 0)<=(if b<n+1 then 1 else 0):=by split <;> split <;> omega
   have t2:(if a<n then 1 else 0)<=(if a<n+1 then 1 else 0):=by split <;> split <;> omega
   omega
theorem Yv {S:I8}(h:S.ev = [])(i:Int):S.begin i=S:=by
 have hd:S.due=S:=by
  unfold I8.due;rw[h];unfold Aq9;rw[<-h]
 unfold I8.begin
 split
 ·exact hd
 ·rfl
theorem Aby {D:Dv}(h:D.down=false){i:Int}(hh:D.has i=true):D.Fm i=0:=by
 unfold Dv.Fm;rw[h,hh];simp
theorem Arv {D:Dv}(h:D.down=false){i:Int}(hh:D.has i=true)(hs:(D.zs i.toNat).st<2)(ho:¬ D.op<=Pg D.zs D.n)(x:List EV):
 D.append i x=(D.tick.set i.toNat ((D.zs i.toNat).app D.size x),(((D.zs i.toNat).l.length:Nat):Int),0):=by
 unfold Dv.append
 rw[Aby h hh,if_neg (fun y=>y rfl),if_neg (fun y=>ho y.2),if_neg (by omega)]
end Go.Ev

namespace Go.Ev
open Go.Proofs
set_option maxRecDepth 100000
variable {K:Nat}{disp:Nat->Option FT}
noncomputable def Mi.Apm(S:Mi)(z:Int):Mi:={ S with ps:=(Aeu S.g S.g.D.toNat S.ps z).2 }
theorem Mi.Wf.Apm {S:Mi}(w:S.Wf){z:Int}(hz:0<=Fs S.g z->¬ S.bad z.toNat=1):(S.Apm z).Wf:={ toWp:=⟨w.sm,Aol w.ps _ _ hz⟩,op:=w.op }
section
variable {h:Aa}{m:Nat}{S:Mi}{F:Nat->Prop}(M:Er h m S F)(hb:HB h)
include M
theorem Aj7(hb:HB h):Ok (Fc K (.ptr m 0) h) fun v h'=>v=gV S.g/\Ext h h':=by
 obtain⟨_,D,p,bl,ql,np,q,c,G,a⟩:=M.s
 exact Alg a.Pp hb
include hb
theorem A1z(A:An disp)(hK:10000<K):∃ p,Cy K (.ptr m 0) h=some (.ptr p 0,h)/\∀ {d:Nat},8<=d->∀ {z:Int},Rng z->(0<=Fs S.g z->¬ S.bad z.toNat=1) ->
 Ok (Ad TT disp K d false 15 [.ptr p 0,I z] h) fun v h'=>v=I (Aeu S.g S.g.D.toNat S.ps z).1/\Er h' m (S.Apm z) F/\Kf F h h'/\HB h':=by
 obtain⟨lt,D,p,bl,ql,np,q,c,G,a⟩:=M.s
 refine⟨p,Vb a.Pp,fun {d} hd {z} hz nb=>?_⟩
 have hnp:=a.psz.nd
 subst hnp
 refine(Awb (K:=K) A a.Fe hb a.psz (by omega) hd z hz).mono ?_
 rintro v h' ⟨c3,hb3,rfl,P3,Z3⟩
 obtain⟨a3,cH⟩:=a.Akt hb P3 Z3 c3
 obtain⟨M3,k3⟩:=M.made (Qm.mono (H:=Out F h) ⟨fun i hi=>Nat.lt_of_lt_of_le hi.1 cH.next,D,p,bl,ql,_,q,c,G,a3⟩ (fun _=>.inl) (Bo.lt lt cH.next)) cH (M.wf.Apm nb)
 exact⟨rfl,M3,k3,hb3⟩
end
end Go.Ev
