import Derived.Test.YtokpnommcenoaaaGreatCc
import Derived.Test.YtokpnommcenoaaaGreatVb
set_option linter.all false
namespace Go.Ev
open Go.Proofs
set_option maxRecDepth 100000
variable {h h' h1:Ab}{B:Cb}{X Y:Co}{F T:Nat->Prop}{e:En}{x:Me}{k:EV->Ab->R}{K b d q:Nat}{Q:EV->Ab->Prop}{v:EV}{disp:Nat->Option FT}
section
def Ec(x:R)(h:Ab)(B:Cb)(X:Co)(F:Nat->Prop):Prop:=Ok x fun v h'=>∃(e:Int) (Y:Co),v=I e/\Ex h h' B X F Y
theorem Ec.ret{e:Int}(c:Ex h h' B X F Y):Ec (some (.int .i64 e,h')) h B X F:=Ok.ret ⟨e,Y,rfl,c⟩
theorem Ec.from {x:R}(c:Ex h h1 B X F Y)(a:Ec x h1 B Y F):Ec x h B X F:=by
 refine Ok.mono a ?_;rintro v h' ⟨e,Z,rfl,c2⟩;exact⟨e,Z,rfl,c.trans c2⟩
theorem Ec.then {x:R}(c:Ex h h1 B X F Y)(a:Ec x h1 B Y F)(b:∀e h' Z,Ex h h' B X F Z->Ec (k (.int .i64 e) h') h B X F):Ec (Am x k) h B X F:=by
 refine Ok.Am a ?_;rintro v h' ⟨e,Z,rfl,c2⟩;exact b e h' Z (c.trans c2)
theorem Bqq(S:Mi)(z:Int):Mk S (S.Bd7 z):=⟨rfl,Dk.refl _⟩
section
variable (A:Bw disp)(hK:10000<K)(C:Cu h B X F)
include A hK C
theorem A4v(hd:18<=d){z:Int}(f:Qu z):Ec (Ag TT disp K d false 197 [.ptr B.m 0,I z] h) h B X F:=by
 refine Ok.mono (Ym A hK C.M C.hb hd f) ?_;rintro v h' ⟨rfl,g,k,a⟩;exact⟨_,_,rfl,C.Hf g k a (Aa2 _ _)⟩
theorem Bgu(hd:8<=d){z:Int}(f:Qu z)(i:0<=Eu X.S.g z->¬X.S.bad z.toNat=1):Ec (Am (Cm K (.ptr B.m 0) h) fun v h=>Am (Ag TT disp K d false 67 [v,I z] h) fun v h=>some (v,h)) h B X F:=by
 obtain⟨p,e1,e2⟩:=Bam C.M C.hb A hK;rw[e1,Ap];refine Ok.Am (e2 hd f i) ?_;rintro v h' ⟨rfl,j,k,a⟩;exact .ret ⟨_,_,rfl,C.Hf j k a (Bqq _ _)⟩
theorem A1s(hd:14<=d)(f:∀e h' Y,Ex h h' B X F Y->Ok (k (.int .i64 e) h') Q):Ok (Am (Bj K (.ptr B.m 0) h) fun v h=>Am (Ag TT disp K d false 140 [v] h) k) Q:=by
 obtain⟨D,V,dr⟩:=Aiw A hK C.M C.hb;rw[dr.Dd];refine Ok.Am (dr.flush hd) ?_;rintro v h' ⟨rfl,g,kf,a⟩;exact f _ _ _ (C.Hf g kf a (Aya (Aqf _)))
theorem Bed(hd:19<=d){z:Int}(i:Qu z)(m:0<=Eu X.S.g z->¬X.S.bad z.toNat=1):Ec (Ag TT disp K d false 143 [.ptr B.c 0,I z] h) h B X F:=by
 obtain⟨e,rfl⟩:∃k,d=k+1:=⟨d-1,by omega⟩;rw[Aok A (by omega)];simp only[Aje,Aa];rw[C.ldM];obtain⟨D,V,dr⟩:=Aiw A hK C.M C.hb;rw[dr.Dd];refine Ok.Am (dr.reset (d:=e) (by omega) z (by rw[(Ak6 X.S.dr z).size];exact C.wf.sz)) ?_;rintro v h2 ⟨rfl,M2,n,f⟩;have c2:=C.Hf M2 n f (Aya (Bbh _ z));generalize (X.S.dr.reset z).2=j;simp only[I,Ac];by_cases h0:j=0
 ·simp only[h0,aB,Aa]
  rw[c2.C.ldM];exact Ec.from c2 (Bgu A hK c2.C (d:=e) (by omega) i m)
 simp only[h0,aA,Aa,Ac];by_cases a:j=34
 ·simp only[a,aB,Aa]
  exact Ec.ret c2
 simp only[a,aA,Aa,Ab1];rw[c2.C.ldM];refine Ec.then c2 (A4v A hK c2.C (d:=e) (by omega) i) fun e3 h3 Z c3=>?_
 simp only[Ac];by_cases h3:e3=34
 ·simp only[h3,aB,Aa]
  exact Ec.ret c3
 ·simp only[h3,aA,Aa,Ack]
  exact Ec.ret c3
omit C in
theorem Bct {n:Nat}(y:X.S.g.D*X.S.g.Z=n)(hd:19<=d):∀(f i:Nat) (h1:Ab) (Y:Co),n-i<f->i<=n->Ex h h1 B X F Y ->
 Ec (Fj (Ag TT disp K d false) (Ag TT disp K d true) K f (.ptr B.c 0) (I n) (I i) h1) h B X F:=by
 intro f;induction f with
 | zero=>intro i h1 Y j;omega
 | succ f m=>
  intro i h1 Y j E c1;have o:Y.S.g=X.S.g:=c1.ck.g;have bd:=c1.C.sm.Agt;rw[o]at bd;rw[Fj];simp only[I,Ac];by_cases p:i<n
  ·have:decide ((i:Int)<(n:Int))=true:=by simp;omega
   simp only[this,Aa,Wj];refine Ok.Am (Bft A hK c1.C (d:=d) (by omega) (z:=i) ⟨by omega,by omega⟩) ?_;rintro v h2 ⟨rfl,t⟩;have c2:=c1.trans (c1.C.rd t);have nx:∀h3 Z,Ex h h3 B X F Z->Ec (Jt (Ag TT disp K d false) (Ag TT disp K d true) K (Fj (Ag TT disp K d false) (Ag TT disp K d true) K f) (.ptr B.c 0) (.int .i64 (n:Int)) (.int .i64 (i:Int)) h3) h B X F:=fun h3 Z c3=>by
    simp only[Jt,Ac];rw[Cg,show((i:Nat):Int)+1=((i+1:Nat):Int) by omega];exact m (i+1) h3 Z (by omega) (by omega) c3
   cases a:Y.dead i with
   | false=>
    simp only[Aa];exact nx _ _ c2
   | true=>
    simp only[Aa,We];have u:0<=Eu Y.S.g i->¬Y.S.bad (i:Int).toNat=1:=by
     unfold Co.dead Co.closed at a;simp only[bL,Bool.not_eq_true']at a;exact Baz a.1.2.2.2.1
    refine Ec.then c2 (Bed A hK c2.C hd (z:=i) ⟨by omega,by omega⟩ u) fun e3 h3 Z c3=>?_
    simp only[Ac];by_cases h0:e3=0
    ·simp only[h0,aC,aA,Aa]
     exact nx _ _ c3
    ·simp only[h0,aF,aB,Aa]
     exact Ec.ret c3
  ·have:decide ((i:Int)<(n:Int))=false:=by simp;omega
   simp only[this,Aa,Wl];exact Ec.ret c1
theorem N8(hd:21<=d):Ec (Ag TT disp K d false 73 [.ptr B.c 0] h) h B X F:=by
 obtain⟨e,rfl⟩:∃k,d=k+1:=⟨d-1,by omega⟩;rw[Vd A (by omega)];simp only[Sn,Aa];rw[C.ldM];refine A1s A hK C (d:=e) (by omega) fun e1 h1 f c1=>?_
 simp only[Ac];by_cases h0:e1=0
 case neg=>
  simp only[h0,aF,aB,Aa];exact Ec.ret c1
 simp only[h0,aC,aA,Aa,Wy];rw[c1.C.ldG];simp only[I,Ac];have lc:=c1.hb _ _ c1.C.core;refine Ok.st1 c1.C.core rfl rfl (by show 3<7;decide) ?_;have c2:=c1.trans (c1.C.Bk6 (Cx .i64 (f.gen+1)) f.ep f.nx f.st);have e2:(f.cells B).set 3 (.int .i64 (Cx .i64 (f.gen+1)))=({ f with gen:=Cx .i64 (f.gen+1),ep:=f.ep,nx:=f.nx,st:=f.st }:Co).cells B:=rfl;rw[e2];generalize ({ f with gen:=Cx .i64 (f.gen+1),ep:=f.ep,nx:=f.nx,st:=f.st }:Co)=o at c2⊢;generalize h1.put B.c (.cells (o.cells B) 130)=h2 at c2⊢;have i:=c2.hb _ _ c2.C.core;rw[Gy i,c2.C.Gy];simp only[Aa,Ar];rw[Gy i,c2.C.ldG];simp only[Aa,Ar];rw[Gy i,c2.C.ldE];simp only[Aa,Ar];rw[Gy i,c2.C.ldN];simp only[Aa,Ar];rw[Gy i,c2.C.ldB];simp only[Aa,Ar];rw[Aw (l:=[I o.gen,I o.ep,I o.nx,.ptr B.b 0]) rfl];obtain⟨n1,n2,n3,n4,G,H,J,n8,n9,O⟩:=c2.C.ne;have t:=c2.C.lift;have wr:=Bn0 (K:=K) A hK (ar:=B.ar) (m:=B.m) (b:=B.b) (ml:=B.ml) (ll:=B.ll) (F:=B.fr F) (es:=o.es) (.inr (.inr (.inl rfl))) ⟨.inr (.inr (.inr (.inl rfl))),.inr (.inr (.inr (.inr (.inl rfl)))),.inr (.inr (.inr (.inr (.inr rfl)))),G.symm,H.symm,J.symm⟩ (x:=o.gen) (y:=o.ep) (z:=o.nx) (d:=e) (by omega) t.M t.hb t.ar t.map t.wf.rt t.wf.sz t.wf.an;refine Ok.bC (S:=fun j=>¬B.fr F j\/j=B.ar) wr (fun _ _ p=>by obtain⟨_,_,_,_,_,_,a⟩:=p;exact a.c) ?_;rintro _ P h3 s' ⟨n',U,S',cur',old',rfl,a⟩ sm V W;have c3:=c2.trans (c2.C.Buf (a.M.same sm) (by rw[sm.get];exact a.A) V (sm.hb a.hb) a.kk a.an);simp only[Aa,I,Ac];by_cases u:U=0
 case neg=>
  simp only[u,aF,aB,Aa];exact Ec.ret c3
 simp only[u,aC,aA,Aa,Wg];rw[c3.C.ldM];refine Ao2 A c3.C fun h4 x4=>?_
 have c4:=c3.trans (c3.C.Xa x4);have gY:=c4.ck.g;rw[gY];have bd:=C.sm.Agt;obtain⟨n,E⟩:=aZ (show 0<=X.S.g.D*X.S.g.Z by omega);rw[E];exact Bct A hK E (d:=e) (by omega) K 0 h4 _ (by omega) (by omega) c4
end
end
section
section
variable {h2 h3:Ab}
theorem Ex.Bnu(x:Ext h h1)(c:Ex h1 h2 B X (Bi F h h1) Y)(t:Au T h2 h3)(g:∀i,T i->h.next<=i/\i<h1.next)(a:HB h3):Ex h h3 B X F Y:=
 ⟨(c.C.Agw t (fun i f _=>.inr (g i f)) a).less fun _=>.inl,(x.As9 c.k).then t fun i f j=>by have:=g i f;omega,c.ck⟩
end
structure Bnl(h h':Ab)(B:Cb)(X:Co)(F:Nat->Prop)(v:EV)(x:Me)(e:Int)(Y:Co):Prop where
 v:v=.tuple [.agg x.cells,I e]
 r:Qu x.An/\Qu x.Bt
 c:Ex h h' B X F Y
theorem Bqj(s:Int):Qu (Me.nil s).An/\Qu (Me.nil s).Bt:=⟨⟨by show _<=(0:Int);omega,by show(0:Int)<=_;omega⟩,⟨by show _<=(0:Int);omega,by show(0:Int)<=_;omega⟩⟩
section
variable (A:Bw disp)(hK:10000<K)
include A hK
theorem Bhz(hd:20<=d)(w:e.Wf)(C:Cu h1 B X F){v3 v4:Nat}{G:Me}(V:h1.get v3=some (.cells e.cells 203))(E:h1.get v4=some (.cells G.cells 53))(f4:F v4):
 Ok (O7 (Ag TT disp K d false) (Ag TT disp K d true) K (.ptr B.c 0) (.ptr v3 0) (.ptr v4 0) h1) fun v h'=>∃(x:Me) (a:Int) (Z:Co) (h2:Ab),v=.tuple [.agg x.cells,I a]/\(Qu x.An/\Qu x.Bt)/\Ex h1 h2 B X F Z/\Au (fun i=>i=v4) h2 h'/\HB h':=by
 have lc:=C.hb _ _ C.core;have l3:=C.hb _ _ V;have el:=En.Az w;simp only[O7,Aa];rw[Gy lc,C.ldM];simp only[Aa,Ar];rw[Gy l3,Cn V rfl (Ak el)];simp only[Aa,Ar];rw[Gy lc,C.ldE];simp only[Aa,Ar];rw[Gy lc,C.ldN];simp only[Aa,Ar];have W:=C.lift;have pl:=Bhg A hK (d:=d) hd W.M W.hb w X.ep X.nx;have H:=Bhh C.M.wf e X.ep X.nx;refine Ok.bC (S:=fun j=>¬B.fr F j) pl (fun _ _ p=>p.2.2.1) ?_;rintro _ ae h2 s' ⟨rfl,M',_,J⟩ sm ch O;have c2:=C.Hf (M'.same sm) ch (sm.hb J) (Bno _ e X.ep X.nx);have u:=c2.k.at C.hb E f4;generalize X.S.place e X.ep X.nx=P at c2 H⊢;obtain⟨S',x,a⟩:=P;simp only at c2 H⊢;generalize ({ X with S:=S' }:Co)=Y at c2⊢;simp only[Aa];rw[Gh (by rcases O with rfl|⟨w,rfl,_⟩<;>kernel_rfl)];refine Ok.mk rfl rfl fun h3 x3 e3 _=>?_
 have c3:=c2.trans (c2.C.Xa x3);have f:=x3.at c2.hb u;have ah:h2.next≠v4:=by have:=c2.hb _ _ u;omega
 have l7:=c3.hb _ _ e3;have fin:∀(h4:Ab) (Z:Co),Ex h1 h4 B X F Z->h4.get h2.next=some (.cells x.cells 53)->h4.get v4=some (.cells G.cells 53)->Ok (Aaj (Ag TT disp K d false) (Ag TT disp K d true) K (.ptr v4 0) (.ptr h2.next 0) (.int .i64 a) h4) fun v h'=>∃(x:Me) (a:Int) (Z:Co) (h2:Ab),v=.tuple [.agg x.cells,I a]/\(Qu x.An/\Qu x.Bt)/\Ex h1 h2 B X F Z/\Au (fun i=>i=v4) h2 h'/\HB h':=by
  intro h4 Z c4 g7 E;have l4:=c4.hb _ _ E;simp only[Aaj,dr];rw[Cn g7 rfl (Ak (n:=6) rfl)];refine Ok.stW E rfl rfl ?_;rw[Ea (Ae _ _ _) A34.1 A34.2 rfl];exact .ret ⟨x,a,Z,h4,rfl,H,c4,(Au.refl (S:=fun i=>i=v4) h4).Ao (.inl rfl) l4 _,c4.hb.put l4 _⟩
 simp only[I,Ac];have U:∀i,B.own i->i≠v4:=fun i hi y=>by subst y;exact C.out _ f4 hi
 have g:B.c≠h2.next:=by have:=c2.hb _ _ c2.C.core;omega
 have m:=U _ (.inl rfl);by_cases h0:a=0
 ·simp only[h0,aB,Aa]at fin⊢
  rw[c3.C.ldN];simp only[I,Ac];refine Ok.st1 c3.C.core rfl rfl (by show 5<7;decide) ?_;exact fin _ _ (c3.trans (c3.C.Bk6 Y.gen Y.ep (Cx .i64 (Y.nx+1)) Y.st)) (by rw[Af _ g];exact e3) (by rw[Af _ m];exact f)
 simp only[h0,aA,Aa,Ac];by_cases D:a=40
 ·simp only[D,aB,Aa]at fin⊢
  rw[c3.C.ldN];simp only[I,Ac];refine Ok.st1 c3.C.core rfl rfl (by show 5<7;decide) ?_;have c4:=c3.trans (c3.C.Bk6 Y.gen Y.ep (Cx .i64 (Y.nx+1)) Y.st);have e4:(Y.cells B).set 5 (.int .i64 (Cx .i64 (Y.nx+1)))=({ Y with gen:=Y.gen,ep:=Y.ep,nx:=Cx .i64 (Y.nx+1),st:=Y.st }:Co).cells B:=rfl;rw[e4];have o:(h3.put B.c (.cells (({ Y with gen:=Y.gen,ep:=Y.ep,nx:=Cx .i64 (Y.nx+1),st:=Y.st }:Co).cells B) 130)).get h2.next=some (.cells x.cells 53):=by rw[Af _ g];exact e3
  have t:(h3.put B.c (.cells (({ Y with gen:=Y.gen,ep:=Y.ep,nx:=Cx .i64 (Y.nx+1),st:=Y.st }:Co).cells B) 130)).get v4=some (.cells G.cells 53):=by rw[Af _ m];exact f
  generalize ({ Y with gen:=Y.gen,ep:=Y.ep,nx:=Cx .i64 (Y.nx+1),st:=Y.st }:Co)=Z at c4 o t⊢;generalize h3.put B.c (.cells (Z.cells B) 130)=h4 at c4 o t⊢;refine Ok.st1 c4.C.core rfl rfl (by show 6<7;decide) ?_;exact fin _ _ (c4.trans (c4.C.Bk6 Z.gen Z.ep Z.nx true)) (by rw[Af _ g];exact o) (by rw[Af _ m];exact t)
 ·simp only[D,aA,Aa]
  exact fin _ _ c3 e3 f
theorem Bdw(hd:22<=d)(w:e.Wf)(C:Cu h B X F):Ok (Ag TT disp K d false 127 [.ptr B.c 0,.agg e.cells] h) fun v h'=>∃x a Y,Bnl h h' B X F v x a Y:=by
 obtain⟨dd,rfl⟩:∃k,d=k+1:=⟨d-1,by omega⟩;rw[Awv A (by omega)];simp only[Asl,Aa];rw[show(h.new (.cells e.cells 203)).next=h.next+1 from rfl];have m:Ext h ((h.new (.cells e.cells 203)).new (.cells (Me.nil 0).cells 53)):=(Au.new _ _).C8 _;have D:((h.new (.cells e.cells 203)).new (.cells (Me.nil 0).cells 53)).next=h.next+2:=rfl
 have u:((h.new (.cells e.cells 203)).new (.cells (Me.nil 0).cells 53)).get h.next=some (.cells e.cells 203):=by rw[Ay _ (aR _)];exact Ad _ _
 have n:((h.new (.cells e.cells 203)).new (.cells (Me.nil 0).cells 53)).get (h.next+1)=some (.cells (Me.nil 0).cells 53):=Ad _ _;rw[show[EV.int .i64 0,.int .i64 0,.int .i64 0,.int .i64 0,.int .i64 0,.int .i64 0]=(Me.nil 0).cells from rfl];generalize (h.new (.cells e.cells 203)).new (.cells (Me.nil 0).cells 53)=h1 at m D u n⊢;have f:=C.ext m;have f3:Bi F h h1 h.next:=.inr ⟨aD _,by omega⟩
 have f4:Bi F h h1 (h.next+1):=.inr ⟨by omega,by omega⟩;rw[f.ldS];have go:∀h2 Y,Ex h1 h2 B X (Bi F h h1) Y->Ok (O7 (Ag TT disp K dd false) (Ag TT disp K dd true) K (.ptr B.c 0) (.ptr h.next 0) (.ptr (h.next+1) 0) h2) fun v h'=>∃x a Y,Bnl h h' B X F v x a Y:=fun h2 Y c2=>by
  refine Ok.mono (Bhz A hK (d:=dd) (by omega) w c2.C (c2.k.at f.hb u f3) (c2.k.at f.hb n f4) f4) ?_;rintro v h4 ⟨x,a,Z,h3,rfl,r,c3,t,o⟩;exact⟨x,a,Z,rfl,r,Ex.Bnu m (c2.trans c3) t (fun i p=>by subst p;omega) o⟩
 cases X.st with
 | false=>
  simp only[Aa];exact go h1 X (Ex.refl f)
 | true=>
  simp only[Aa];refine Ok.Am (N8 A hK f (d:=dd) (by omega)) ?_;rintro _ h2 ⟨e2,Y,rfl,c2⟩;have g:=c2.k.at f.hb n f4;have y:=c2.hb _ _ g;have stop:∀a:Int,Ok (stE 6 (.ptr (h.next+1) 0) (.agg (Me.nil 0).cells) h2 fun h=>Ii TT [.c (.ptr (h1.next-1) 0) 53,.v (.int .i64 a)] h) fun v h'=>∃x a Y,Bnl h h' B X F v x a Y:=fun a=>by
   rw[show h1.next-1=h.next+1 by omega];refine Ok.stW g rfl rfl ?_;rw[Ea (Ae _ _ _) A34.1 A34.2 rfl];exact .ret ⟨Me.nil 0,a,Y,rfl,Bqj 0,Ex.Bnu m c2 ((Au.refl (S:=fun i=>i=h.next+1) h2).Ao (.inl rfl) y _) (fun i p=>by subst p;omega) (c2.hb.put y _)⟩
  rw[show h1.next-1=h.next+1 by omega]at stop;simp only[I,Ac];by_cases j:e2=34
  ·simp only[j,aB,Aa]
   rw[Aw (l:=(Me.nil 0).cells) rfl];exact stop 34
  simp only[j,aA,Aa,Ac];by_cases h0:e2=0
  ·simp only[h0,aC,aA,Aa,Ala]
   refine Ok.st1 c2.C.core rfl rfl (by show 6<7;decide) ?_;exact go _ _ (c2.trans (c2.C.Bk6 Y.gen Y.ep Y.nx false))
  ·simp only[h0,aF,aB,Aa]
   rw[Aw (l:=(Me.nil 0).cells) rfl];exact stop 40
end
end
section
theorem Cu.same(C:Cu h B X F)(sm:Ag9 h h'):Cu h' B X F:=
 ⟨C.M.same sm,by rw[sm.get];exact C.core,by rw[sm.get];exact C.ar,C.map.frame (sm.get _) (sm.get _) (sm.get _),C.wf,C.out,sm.hb C.hb⟩
theorem Bf4(a b c d:Int){bl:List Nat}(f:bl.length=32):Aca (Dg [(0,1),(1,1),(2,1),(3,1),(4,1),(5,1),(6,32)]) [(0,I a),(1,I b),(2,I c),(3,I d),(6,.agg (Bk bl))] En.zero.cells=some (⟨a,b,c,d,0,0,bl⟩:En).cells:=by
 have hs:=Ak7 [I a,I b,I c,I d,I 0,I 0] (Bk D4) (Bk bl) (by rw[Bg,Bg,f,Acj]);rw[<-U6]at hs;show Ax (Nat.beq (Fl (Bk bl)) 32) (oB (fun z=>some z) (Mh ([I a,I b,I c,I d,I 0,I 0]++Bk D4) 6 (Bk bl))) none=_;rw[Bf,Bg,f,cI,Aj];rw[show(6:Nat) = [I a,I b,I c,I d,I 0,I 0].length from rfl,hs];rfl
section
variable (A:Bw disp)(hK:10000<K)(C:Cu h B X F)
include C
theorem Av8(f:x.state=1->Qu x.An/\Qu x.Bt)(j:Int):Ec (Jc K (.ptr B.b 0) (I j) (.agg x.cells) h) h B X F:=by
 refine Ok.mono (A1u (K:=K) C.sm C.map C.hb f j) ?_;rintro _ h' ⟨rfl,m,c,a⟩;exact⟨_,_,rfl,C.Buk m c a⟩
include A hK
theorem Bca(hd:22<=d){H:Nat}(J:h.get H=some (.cells x.cells 53))(r:Qu x.An/\Qu x.Bt)(j:Int):
 Ec (X6 (Ag TT disp K d false) (Ag TT disp K d true) K (.ptr B.c 0) (I j) (.ptr H 0) h) h B X F:=by
 have lc:=C.hb _ _ C.core;have l5:=C.hb _ _ J;simp only[X6,Aa];rw[Gy lc,C.ldM];simp only[Aa,Ar];rw[Gy l5,Cn J rfl (Ak (n:=6) rfl)];simp only[Aa,Ar];refine Ok.bC (S:=fun j=>¬B.fr F j) (Bnp A hK (d:=d) (by omega) C.lift.M C.lift.hb r.1 r.2) (fun _ _ p=>p.2.2.2.1) ?_;rintro _ ae h2 s' ⟨rfl,a,M',_,g⟩ sm ch i;have c2:=C.Hf (M'.same sm) ch (sm.hb g) (Bov _ x);generalize X.S.read x=P at c2 a⊢;obtain⟨S',bl,O⟩:=P;simp only at c2 a⊢;generalize ({ X with S:=S' }:Co)=Y at c2⊢;have ul:(Bk bl).length=32:=by rw[Bg,a.1]
 simp only[Aa];rw[Gh (by rcases i with rfl|⟨w,rfl,_⟩<;>kernel_rfl)];refine Ok.st (Bk bl) (Ad _ _) rfl (by show Fl (Bk bl)=32;rw[Bf,ul]) (Bm (by rw[bT];exact ul.symm)) ?_;obtain⟨h3,e_,x3,U,_⟩:=nP h2 (.cells (List.replicate 32 (EV.int .u8 0)) 85) (.cells (Bk bl) 85);rw[e_];have c3:=c2.trans (c2.C.Xa x3);simp only[I,Ac];by_cases h0:O=0
 ·simp only[h0,aB,Aa,Ahs]
  have m:=c3.hb _ _ c3.C.core;have l7:=c3.hb _ _ U;rw[Gy m,c3.C.ldN];simp only[Aa,Ar];rw[Gy l7,Cn U rfl (Ak ul)];simp only[Aa,Ar];have V:=Bf4 3 Y.nx 1 j a.1;rw[<-En.Hj]at V;rw[show(EV.int .i64 3)=I 3 from rfl,show(EV.int .i64 1)=I 1 from rfl,show(EV.int .i64 j)=I j from rfl,Aw V];refine Ok.bC (S:=fun j=>¬F j) (Bdw A hK (d:=d) (by omega) (⟨a.1,a.2⟩:(⟨3,Y.nx,1,j,0,0,bl⟩:En).Wf) c3.C.lift) (fun _ _ p=>by obtain⟨_,_,_,p⟩:=p;exact p.c.k) ?_;rintro _ al h4 s2 ⟨x2,e2,Z,p⟩ o t u;have pv:=p.v;subst pv;have c4:Ex h3 h4 B Y F Z:=⟨p.c.C.same o,t,p.c.ck⟩;have c4:=c3.trans c4;simp only[Aa,I];rw[Gh (by rcases u with rfl|⟨w,rfl,_⟩<;>kernel_rfl)];refine Ok.mk rfl rfl fun h5 x5 g9 _=>?_
  have c5:=c4.trans (c4.C.Xa x5);simp only[Ac];by_cases h0:e2=0
  ·simp only[h0,aC,aA,Aa,Ah7]
   have D:=c5.hb _ _ c5.C.core;have l9:=c5.hb _ _ g9;rw[Gy D,c5.C.ldB];simp only[Aa,Ar];rw[Gy l9,Cn g9 rfl (Ak (n:=6) rfl)];simp only[Aa,Ar];refine Ok.bC (S:=fun j=>¬F j) (Av8 (K:=K) c5.C.lift (fun _=>p.r) j) (fun _ _ p=>by obtain⟨_,_,_,p⟩:=p;exact p.k) ?_;rintro _ aw h6 s3 ⟨e6,W,rfl,c6⟩ E G _;exact Ec.ret (c5.trans ⟨c6.C.same E,G,c6.ck⟩)
  ·simp only[h0,aF,aB,Aa]
   exact Ec.ret c5
 simp only[h0,aA,Aa,Ac];by_cases f:O=41
 ·simp only[f,aB,Aa]
  rw[c3.C.ldB,Aw (l:=(Me.nil 2).cells) rfl];refine Ec.then c3 (Av8 (K:=K) c3.C (x:=Me.nil 2) (fun y=>by cases y) j) fun e4 h4 Z c4=>?_
  exact Ec.ret c4
 ·simp only[f,aA,Aa]
  exact Ec.ret c3
theorem Bfu(hd:23<=d)(j:Int):Ec (Ag TT disp K d false 139 [.ptr B.c 0,I j] h) h B X F:=by
 obtain⟨e,rfl⟩:∃k,d=k+1:=⟨d-1,by omega⟩;rw[At6 A (by omega)];simp only[Aqq,Aa];rw[C.ldB];refine Ok.Am (Tf (K:=K) C.sm C.map C.hb j) ?_;rintro _ h2 ⟨rfl,a⟩;have rg:=A7l C.sm (A22 C.map.ok j);have c2:=C.Xa a;simp only[Aa];generalize (Aeu X.es j).1=x at rg⊢;refine Ok.mk rfl rfl fun h3 f e3 _=>?_
 have c3:=c2.trans (c2.C.Xa f);rw[Ah e3 rfl (v:=I x.state) rfl];simp only[I,Ac];by_cases h1:x.state=1
 ·simp only[h1,aC,aA,Aa]
  exact Ec.from c3 (Bca A hK c3.C (d:=e) (by omega) e3 rg j)
 ·simp only[h1,aF,aB,Aa]
  exact Ec.ret c3
end
end
section
theorem Ex.less{G:Nat->Prop}(c:Ex h h' B X G Y)(s:∀i,F i->G i):Ex h h' B X F Y:=⟨c.C.less s,c.k.less s,c.ck⟩
section
variable (A:Bw disp)(hK:10000<K)(C:Cu h B X F)
include A hK
theorem Bcw(hd:23<=d){s:EV}{L:List Nat}(hL:L.length<=256)(g:0<L.length->F q):∀(f i:Nat) (h1:Ab) (Y:Co),L.length-i<f->i<=L.length->Ex h h1 B X F Y->Cc h1 s q 3 1 L.length (L.map nI) ->
 Ec (Lo (Ag TT disp K d false) (Ag TT disp K d true) K f (.ptr B.c 0) s (I L.length) (I i) h1) h B X F:=by
 intro f;induction f with
 | zero=>intro i h1 Y j;omega
 | succ f m=>
  intro i h1 Y j n c1 row;rw[Lo];simp only[I,Ac];by_cases a:i<L.length
  ·have:decide ((i:Int)<(L.length:Int))=true:=by simp;omega
   simp only[this,Aa,Aga];have ix:=row.ix a .i64;rw[ix,bk,Ah (row.block (by omega)) rfl (v:=I (L[i]:Int)) (by rw[bA,aH a];rfl)];refine Ok.Am (Bfu A hK c1.C hd (L[i]:Int)) ?_;rintro _ h2 ⟨e2,Z,rfl,c2⟩;simp only[I,Ac];by_cases h0:e2=0
   ·have bl:=hL
    simp only[h0,aC,aA,Aa,Afl,Ac];rw[Cg,show((i:Nat):Int)+1=((i+1:Nat):Int) by omega];exact m (i+1) h2 Z (by omega) (by omega) (c1.trans c2) (row.frame fun y=>c2.k.get _ (c1.hb _ _ (row.block y)) fun w=>w (g y))
   ·simp only[h0,aF,aB,Aa]
    exact Ec.ret (c1.trans c2)
  ·have:decide ((i:Int)<(L.length:Int))=false:=by simp;omega
   simp only[this,Aa,Agg];refine Ec.then c1 (N8 A hK c1.C (d:=d) (by omega)) fun e2 h2 Z c2=>Ec.ret c2
include C
theorem A4p(hd:24<=d){z:Int}(j:Qu z):Ec (Ag TT disp K d false 74 [.ptr B.c 0,I z] h) h B X F:=by
 obtain⟨e,rfl⟩:∃k,d=k+1:=⟨d-1,by omega⟩;rw[Ary A (by omega)];simp only[Anb,Aa];refine Ok.Am (Arl A hK C (d:=e) (by omega) j) ?_;rintro _ h2 ⟨rfl,m⟩;have c2:=C.rd m;cases X.closed z with
 | false=>
  simp only[Aa];exact Ec.ret c2
 | true=>
 simp only[Aa,Af5];refine Ok.Am (Bgz A hK c2.C (d:=e) (by omega) z) ?_;rintro v h3 ⟨f,q,row,lq⟩;have bl:=Blp z X.es X.es.length;have el:=C.Bmi;generalize blN z X.es X.es.length=L at row lq bl⊢;rw[row.Hc];have n:Cu h3 B X (fun i=>F i\/(0<L.length/\i=q)):=by
  obtain⟨⟨T,k,t⟩,_⟩:=f;refine(c2.C.kp k).less fun i a=>?_
  rcases a with a|⟨g,rfl⟩
  ·exact .inl a
  ·exact .inr ⟨lq g,(k.chg.hb c2.C.hb) _ _ (row.block g)⟩
 have:=Bcw A hK (d:=e) (by omega) (F:=fun i=>F i\/(0<L.length/\i=q)) (s:=v) (q:=q) (L:=L) (by omega) (fun y=>.inr ⟨y,rfl⟩) K 0 h3 X (by omega) (by omega) (Ex.refl n) row;refine Ok.mono this ?_;rintro _ h4 ⟨e4,Y,rfl,c4⟩;have c4:=c4.less (F:=F) fun i=>.inl
 exact⟨e4,Y,rfl,(c2.trans (c2.C.rd f)).trans c4⟩
theorem A2l(a:∀(n:Int) h',Ext h h'->Ok (k (.int .i64 n) h') Q):Ok (Am (Cm K (.ptr B.m 0) h) fun v h=>Am (Ig K v h) k) Q:=
 Biy hK C.M C.hb fun h' x=>a _ h' x
theorem Bmz {d:Int}:Qu (X.Qb (X.S.g.D*X.S.g.Z).toNat):=by
 have b:=X.A7o (X.S.g.D*X.S.g.Z).toNat;have:=C.sm.Agt;exact⟨by omega,by omega⟩
theorem Bqh(hd:25<=d):Ok (Ag TT disp K d false 145 [.ptr B.c 0] h) fun v h'=>∃(b:Bool) (e:Int) (Y:Co),v=.tuple [.bool b,I e]/\Ex h h' B X F Y:=by
 obtain⟨e,rfl⟩:∃k,d=k+1:=⟨d-1,by omega⟩;rw[Att A (by omega)];simp only[Aqn,Aa];refine Ok.Am (Bri A hK C (d:=e) (by omega)) ?_;rintro _ h2 ⟨⟨b,rfl⟩,i⟩;have c2:=C.rd i;cases b with
 | true=>
  simp only[Aa];refine Ok.Am (N8 A hK c2.C (d:=e) (by omega)) ?_;rintro _ h3 ⟨e3,Y,rfl,c3⟩;exact .ret ⟨true,e3,Y,rfl,c2.trans c3⟩
 | false=>
  simp only[Aa,Ait];refine Ok.Am (Bh6 A hK c2.C (d:=e) (by omega)) ?_;rintro _ h3 ⟨rfl,j⟩;have c3:=c2.trans (c2.C.rd j);have a:=Bmz A hK C (d:=0);generalize X.Qb (X.S.g.D*X.S.g.Z).toNat=z at a⊢;simp only[I,Ac];by_cases f:z = -1
  ·simp only[f,aB,Aa]
   exact .ret ⟨false,0,X,rfl,c3⟩
  ·simp only[f,aA,Aa,Ahf]
   refine Ok.Am (A4p A hK c3.C (d:=e) (by omega) a) ?_;rintro _ h4 ⟨e4,Y,rfl,c4⟩;exact .ret ⟨true,e4,Y,rfl,c3.trans c4⟩
theorem Auf(c1:Ex h h1 B X F Y)(n:Int)(d:Nat):Ec (Rk (Ag TT disp K d false) (Ag TT disp K d true) K (.ptr B.c 0) (I n) h1) h B X F:=by
 simp only[Rk,Aa];rw[c1.C.ldM];refine A2l A hK c1.C fun p h2 g=>?_
 have c2:=c1.trans (c1.C.Xa g);have i:D6 (.tuple []) false=false/\D6 (.tuple []) true=false:=⟨rfl,rfl⟩;simp only[I,Ac];by_cases a:p=0
 ·simp only[a,aB,Aa,Ac]
  by_cases f:0<n
  ·simp only[f,aB,Rh,Aa]
   exact Ec.ret c2
  ·simp only[f,aA,Rh,Aa,X5]
   exact Ec.ret c2
 ·simp only[a,aA,Aa,Ac,Rh,X5]
  exact Ec.ret c2
theorem Bhv(hd:25<=d)(n:Int){N:Nat}(y:N<=5000):∀(f i:Nat) (h1:Ab) (Y:Co),N-i<f->i<=N->Ex h h1 B X F Y ->
 Ec (Mu (Ag TT disp K d false) (Ag TT disp K d true) K f (.ptr B.c 0) (I n) (I N) (I i) h1) h B X F:=by
 intro f;induction f with
 | zero=>intro i h1 Y j;omega
 | succ f m=>
  intro i h1 Y j D c1;rw[Mu];simp only[I,Ac];by_cases o:i<N
  ·have:decide ((i:Int)<(N:Int))=true:=by simp;omega
   simp only[this,Aa,Ain];rw[c1.C.ldM];refine A2l A hK c1.C fun p h2 t=>?_
   have c2:=c1.trans (c1.C.Xa t);simp only[Ac];by_cases g:n<=p
   ·simp only[g,aB,Aa]
    exact Ec.ret c2
   simp only[g,aA,Aa,Ahc];refine Ok.Am (Bqh A hK c2.C hd) ?_;rintro _ h3 ⟨b,e,Z,rfl,c3⟩;have c3:=c2.trans c3;have u:D6 (.tuple []) false=false/\D6 (.tuple []) true=false:=⟨rfl,rfl⟩;simp only[Aa,I,Ac];by_cases a:e=34
   ·simp only[a,aB,Aa]
    exact Ec.ret c3
   simp only[a,aA,Aa,Aja];cases b with
   | false=>
    simp only[Aa,Ac,Rn];exact Auf A hK C c3 n d
   | true=>
    simp only[Aa,Ac];by_cases h0:e=0
    ·simp only[h0,aC,aA,Aa,Ac,Rn,Ahd]
     rw[Cg,show((i:Nat):Int)+1=((i+1:Nat):Int) by omega];exact m (i+1) h3 Z (by omega) (by omega) c3
    ·simp only[h0,aF,aB,Aa,Ac,Rn]
     exact Auf A hK C c3 n d
  ·have:decide ((i:Int)<(N:Int))=false:=by simp;omega
   simp only[this,Aa];exact Auf A hK C c1 n d
theorem Bpe(hd:26<=d)(n:Int):Ec (Ag TT disp K d false 75 [.ptr B.c 0,I n] h) h B X F:=by
 obtain⟨e,rfl⟩:∃k,d=k+1:=⟨d-1,by omega⟩;rw[Aur A (by omega)];simp only[Ap9,Aa,I,Ac];have a:D6 (.tuple []) false=false/\D6 (.tuple []) true=false:=⟨rfl,rfl⟩;by_cases h0:n<0
 ·simp only[h0,aB,Aa,Ac,Pj]
  exact Ec.ret (Ex.refl C)
 simp only[h0,aA,Aa,Ac];rw[C.ldM];refine Ao2 A C fun h2 f=>?_
 have c2:=C.Xa f;simp only[I,Ac];by_cases h1:X.S.g.D*X.S.g.Z<n
 ·simp only[h1,aB,Aa,Ac,Pj]
  exact Ec.ret c2
 simp only[h1,aA,Aa,Ac,Pj,Agj];rw[c2.C.ldM];refine Ao2 A c2.C fun h3 i=>?_
 have c3:=c2.trans (c2.C.Xa i);have bd:=C.sm.Agt;obtain⟨N,j⟩:=aZ (show 0<=2*(X.S.g.D*X.S.g.Z) by omega);simp only[I,Ac];rw[Cg,j];exact Bhv A hK C (d:=e) (by omega) n (by omega) K 0 h3 X (by omega) (by omega) c3
theorem Aug(hd:27<=d):Ec (Ag TT disp K d false 126 [.ptr B.c 0] h) h B X F:=by
 obtain⟨e,rfl⟩:∃k,d=k+1:=⟨d-1,by omega⟩;rw[An9 A (by omega)];simp only[Ajf,Aa];rw[C.ldM];refine Ok.Am (Mx (K:=K) C.M C.hb) ?_;rintro _ h2 ⟨rfl,a⟩;rw[Anh C.sm,Ap];have c3:=C.Xa (a.C8 (.cells (gL X.S.g) 23));exact Ec.then c3 (Bpe A hK c3.C (d:=e) (by omega) _) fun e4 h4 Z c4=>Ec.ret c4
end
end
section
theorem Df.Bfc{m:Nat}{S:Mi}(M:Df h m S F)(c:Au T h h')(t:∀i,T i->i<h.next->F i):Df h' m S (Bi F h h'):=by
 refine⟨(M.s.frame c.next fun i a=>c.get i a.1 fun y=>a.2 (t i y a.1)).mono (fun i a=>⟨aN a.1 c.next,fun y=>?_⟩) fun i a=>a.1,Bi.lt M.lt c.next,M.wf⟩;rcases y with y|y
 ·exact a.2 y
 ·have:=a.1;omega
theorem Cu.Bfc(C:Cu h B X F)(c:Au T h h')(t:∀i,T i->i<h.next->F i)(f:HB h'):Cu h' B X (Bi F h h'):=by
 have g:=C.Agw c t f;refine⟨(C.M.Bfc c fun i a j=>.inl (t i a j)).less fun i a=>?_,g.core,g.ar,g.map,C.wf,fun i a=>?_,f⟩
 ·rcases a with(a|a)|a
  ·exact .inl (.inl a)
  ·exact .inr a
  ·exact .inl (.inr a)
 ·rcases a with a|a
  ·exact C.out i a
  ·intro y
   have m:=C.hb _ _ C.core;have n:=C.hb _ _ C.ar;have a3:=C.hb _ _ C.map.map;have a4:=C.hb _ _ C.map.row;have o:=C.hb _ _ C.map.live;rcases y with y|y|y|y|y<;>omega
structure Wr where
 block:Int
 bytes:List Nat
def Wr.Wf(w:Wr):Prop:=w.bytes.length=32/\∀b∈w.bytes,b<256
def Wr.cells(w:Wr):List EV:=I w.block::Bk w.bytes
theorem Wr.len {w:Wr}(f:w.Wf):w.cells.length=33:=by unfold Wr.cells;rw[bK,Bg,f.1]
structure Axu(h:Ab)(v:EV)(b:Nat)(L:List Wr):Prop where
 row:(v=.Al/\L = [])\/∃off r op,v=.slice b off L.length r op/\∀j (hj:j<L.length) (k:EV->R),Q2 33 (.ptr b (off+j*33)) h k=k (.agg L[j].cells)
 wf:∀w∈L,w.Wf
theorem Axu.frame{L:List Wr}(r:Axu h v b L)(e:0<L.length->h'.get b=h.get b):Axu h' v b L:=by
 refine⟨?_,r.wf⟩;rcases r.row with y|⟨off,a,op,rfl,y⟩
 ·exact .inl y
 ·refine .inr ⟨off,a,op,rfl,fun j hj k=>?_⟩
  have:=y j hj k;show oB _ (Awt (h'.get b) _ 33)=_;rw[e (by omega)];exact this
theorem Axu.Hc{L:List Wr}(r:Axu h v b L)(k:EV->R):Ev.Hc v k=k (I L.length):=by
 rcases r.row with⟨rfl,rfl⟩|⟨off,a,op,rfl,_⟩<;>rfl
theorem Axu.at{L:List Wr}(r:Axu h v b L){j:Nat}(hj:j<L.length)(k:EV->R):Aal 33 v (.int .i64 (j:Int)) (fun p=>Q2 33 p h k)=k (.agg L[j].cells):=by
 rcases r.row with⟨rfl,rfl⟩|⟨off,a,op,rfl,y⟩
 ·exact absurd hj (cn _)
 ·rw[N5 hj];exact y j hj k
theorem Bsk: [EV.int .i64 0]++List.replicate 32 (EV.int .u8 0)=(⟨0,D4⟩:Wr).cells:=by kernel_rfl
theorem Bfs(C:Cu h B X F)(j:Int):Ok (U3 K (.ptr B.c 0) (I j) h) fun v h'=>v=.bool (decide (0<=j)&&decide (j<X.S.g.B))/\Ext h h':=by
 simp only[U3,I,Ac,Aa];have a:D6 (.tuple []) false=false/\D6 (.tuple []) true=false:=⟨rfl,rfl⟩;by_cases h0:0<=j
 ·simp only[h0,aB,Aa,Ac]
  rw[C.ldM];refine Ok.Am (Mx (K:=K) C.M C.hb) ?_;rintro _ h2 ⟨rfl,f⟩;unfold gV;rw[Ati (v:=I X.S.g.B) rfl];simp only[I,Ac,Aa,Aam];exact .ret ⟨by simp,f⟩
 ·simp only[h0,aA,Aa,Ac,Aam]
  exact .ret ⟨rfl,Au.refl _⟩
section
variable{L:List Wr}(fb:0<L.length->F b)(hL:L.length<=2000000)
include fb hL
theorem Bjg:∀(f i:Nat) (h:Ab),L.length-i<f->i<=L.length->Cu h B X F->Axu h v b L ->
 Ok (N2 K f (.ptr B.c 0) v v (I L.length) (I i) h) fun w h'=>(∃ok:Bool,w=.bool ok/\(ok=true->L.length<=4))/\Ext h h':=by
 intro f;induction f with
 | zero=>intro i h n;omega
 | succ f o=>
  intro i h n D C W;rw[N2];simp only[I,Ac];by_cases j:i<L.length
  ·have:decide ((i:Int)<(L.length:Int))=true:=by simp;omega
   simp only[this,Aa,Aii];rw[W.at j];have wf:=W.wf _ (av j);generalize L[i]=w at wf⊢;have wl:=Wr.len wf
   try simp only[Aa]
   rw[Bsk];refine Ok.mk rfl wl fun h3 m e3 _=>?_
   rw[Ah e3 rfl (v:=I w.block) rfl];refine Ok.Am (Bfs (K:=K) (C.Xa m).C w.block) ?_;rintro _ h4 ⟨rfl,p⟩;have x:=m.trans p;cases(decide (0<=w.block)&&decide (w.block<X.S.g.B))with
   | false=>
    simp only[Aa];exact .ret ⟨⟨_,rfl,fun y=>by cases y⟩,x⟩
   | true=>
    simp only[Aa,Aik,Ac];rw[Cg,show((i:Nat):Int)+1=((i+1:Nat):Int) by omega];refine Ok.mono (o (i+1) h4 (by omega) (by omega) (C.Xa x).C (W.frame fun y=>x.get _ (C.M.lt _ (.inl (fb y))) id)) ?_;rintro w E ⟨a,t⟩;exact⟨a,x.trans t⟩
  ·have:decide ((i:Int)<(L.length:Int))=false:=by simp;omega
   have u:D6 (.tuple []) false=false/\D6 (.tuple []) true=false:=⟨rfl,rfl⟩;simp only[this,Aa,Ahq];rw[W.Hc];simp only[I,Ac];by_cases h1:1<=(L.length:Int)
   ·simp only[h1,aB,Aa,Ac]
    rw[W.Hc];simp only[I,Ac,Yt,Aa];exact .ret ⟨⟨_,rfl,fun y=>by have:=cO y;omega⟩,Au.refl _⟩
   ·simp only[h1,aA,Aa,Ac,Yt]
    exact .ret ⟨⟨_,rfl,fun y=>by cases y⟩,Au.refl _⟩
end
structure Bt8(h:Ab)(s:EV)(q:Nat)(xs:List Me):Prop where
 row:Cc h s q 53 6 xs.length (xs.map Me.cells).flatten
 rng:∀x∈xs,Qu x.An/\Qu x.Bt
section
variable (A:Bw disp)(hK:10000<K){L:List Wr}(fb:0<L.length->F b)(hL:L.length<=4)
include A hK fb hL
theorem A0o{s:EV}{xs:List Me}(hx:L.length<=xs.length)(J:0<xs.length->F q):∀(f i:Nat) (h1:Ab) (Y:Co),L.length-i<f->i<=L.length->Ex h h1 B X F Y->Axu h1 v b L->Bt8 h1 s q xs ->
 Ec (I5 (Ag TT disp K d false) (Ag TT disp K d true) K f (.ptr B.c 0) s v (I L.length) (I i) h1) h B X F:=by
 intro f;induction f with
 | zero=>intro i h1 Y O;omega
 | succ f U=>
  intro i h1 Y O hi c1 W P;rw[I5];simp only[I,Ac];by_cases m:i<L.length
  ·have:decide ((i:Int)<(L.length:Int))=true:=by simp;omega
   simp only[this,Aa,Afz];rw[W.at m];have wf:=W.wf _ (av m);generalize L[i]=w at wf⊢;have wl:=Wr.len wf
   try simp only[Aa]
   rw[Bsk];refine Ok.mk rfl wl fun h3 t e3 _=>?_
   have c3:=c1.trans (c1.C.Xa t);have lc:=c3.hb _ _ c3.C.core;have V:=c3.hb _ _ e3;have G:0<xs.length:=by omega
   have a:=P.row.frame (h':=h3) fun y=>t.get _ (c1.hb _ _ (P.row.block y)) id
   have lq:=c3.hb _ _ (a.block G);have g:i<xs.length:=by omega
   rw[Gy lc,c3.C.ldB];simp only[Aa,Ar];rw[Gy V,Ah e3 rfl (v:=I w.block) rfl];simp only[Aa,Ar];have ix:=a.ix g .i64;rw[ix,Gy lq,Cn (a.block G) rfl (Az4 xs g)];simp only[Aa,Ar];have rg:=P.rng _ (av g);refine Ok.bC (S:=fun j=>¬F j) (Av8 (K:=K) c3.C.lift (fun _=>rg) w.block) (fun _ _ p=>by obtain⟨_,_,_,p⟩:=p;exact p.k) ?_;rintro _ aa u s3 ⟨e6,Z,rfl,H⟩ D E _;have n:Ex h3 u B Y F Z:=⟨H.C.same D,E,H.ck⟩;simp only[Agy,Ac];rw[Cg,show((i:Nat):Int)+1=((i+1:Nat):Int) by omega];have o:∀j,F j->u.get j=h1.get j:=fun j hj=>by
    have l:=c1.C.M.lt _ (.inl hj);rw[n.k.get _ (aN l t.next) fun y=>y hj,t.get _ l id]
   exact U (i+1) u Z (by omega) (by omega) (c3.trans n) (W.frame fun y=>o _ (fb y)) ⟨P.row.frame fun y=>o _ (J y),P.rng⟩
  ·have:decide ((i:Int)<(L.length:Int))=false:=by simp;omega
   simp only[this,Aa,Wb];exact Ec.ret c1
theorem A13(hd:22<=d)(t:∀j,F j->j<h.next)(first:Int):∀(f i:Nat) (h1:Ab) (Y:Co) (s:EV) (q:Nat) (xs:List Me),L.length-i<f->i<=L.length->xs.length=i->Ex h h1 B X F Y->Cu h1 B Y (fun j=>F j\/(0<xs.length/\j=q))->(0<xs.length->h.next<=q)->Axu h1 v b L->Bt8 h1 s q xs ->
 Ec (Ib (Ag TT disp K d false) (Ag TT disp K d true) K f (.ptr B.c 0) v (I first) s v (I L.length) (I i) h1) h B X F:=by
 intro f;induction f with
 | zero=>intro i h1 Y s q xs hf;omega
 | succ f ih=>
  intro i h1 Y s q xs hf hi aw c1 V hq W P;rw[Ib];simp only[I,Ac];have aa:∀j,F j->j<h1.next:=fun j hj=>c1.C.M.lt _ (.inl hj)
  by_cases u:i<L.length
  ·have:decide ((i:Int)<(L.length:Int))=true:=by simp;omega
   simp only[this,Aa,Agc];rw[W.at u];have wf:=W.wf _ (av u);generalize L[i]=w at wf⊢;have wl:=Wr.len wf
   try simp only[Aa]
   rw[Bsk];refine Ok.mk rfl wl fun h3 x3 e3 _=>?_
   rw[W.Hc]
   try simp only[Aa]
   rw[Ah e3 rfl (v:=I w.block) rfl]
   try simp only[Aa]
   rw[Cn e3 rfl (show Mj w.cells 1 32=some (Bk w.bytes) by
    rw[E6 (by omega)];unfold Wr.cells;rw[List.drop_succ_cons,dE,bR (by rw[Bg,wf.1];omega)])]
   have fe:=Bf4 1 first L.length w.block wf.1
   rw[<-En.Hj]at fe;rw[show(EV.int .i64 1)=I 1 from rfl,show(EV.int .i64 first)=I first from rfl,Aw fe];have C3:=(V.Xa x3).C;have p0:=Bdw A hK hd (⟨wf.1,wf.2⟩:(⟨1,first,L.length,w.block,0,0,w.bytes⟩:En).Wf) C3;refine Ok.Am p0 ?_;rintro _ h4 ⟨x,er,Z,⟨rfl,rg,c4⟩⟩;have m:Ex h1 h4 B Y (fun j=>F j\/(0<xs.length/\j=q)) Z:=(V.Xa x3).trans c4;have D:Ex h h4 B X F Z:=c1.trans (m.less fun j=>.inl);simp only[Aa];refine Ok.mk rfl rfl fun p x5 e5 _=>?_
   have g:=D.trans (D.C.Xa x5);have o:=m.trans (m.C.Xa x5);have E:∀j,(F j\/(0<xs.length/\j=q))->j<h1.next->p.get j=h1.get j:=fun j hj l=>o.k.get _ l fun y=>y hj
   simp only[I,Ac];by_cases h0:er=0
   case neg=>
    simp only[h0,aF,aB,Aa];exact Ec.ret g
   simp only[h0,aC,aA,Aa,Afo];rw[Cn e5 rfl (Ak (n:=6) rfl)];have G:=P.row.frame (h':=p) fun y=>E _ (.inr ⟨y,rfl⟩) (c1.hb _ _ (P.row.block y))
   have H:=g.hb;refine L0 (z:=[.int .i64 0,.int .i64 0,.int .i64 0,.int .i64 0,.int .i64 0,.int .i64 0]) (v:=.agg x.cells) G H rfl rfl rfl (by omega) (by omega) fun J O a1 c6=>?_
   have ad:=c6.hb H;have C6:=o.C.Bfc c6 (fun j hj hl=>.inr ⟨hj.1,hj.2⟩) ad;have ae:Cu J B Z (fun j=>F j\/(0<(xs++[x]).length/\j=p.next+1)):=C6.less fun j hj=>by
    rcases hj with hj|⟨_,rfl⟩
    ·exact .inl (.inl hj)
    ·exact .inr ⟨by omega,by omega⟩
   have S:Kf F p J:=c6.mono fun j hj y=>by
    have a:=t j y;have b:=hq hj.1;have e:=hj.2;omega
   have af:Ex h J B X F Z:=g.trans ⟨C6.less fun j hj=>.inl (.inl hj),S,Ck.refl _⟩;have ag:∀j,F j->J.get j=h1.get j:=fun j hj=>by
    have l:=aa j hj;have l5:=aN l o.k.next
    rw[S.get _ l5 (fun y=>y hj)];exact E _ (.inl hj) l
   simp only[Af4,Ac];rw[Cg,show((i:Nat):Int)+1=((i+1:Nat):Int) by omega];have lx:(xs++[x]).length=xs.length+1:=by simp
   have ao:=g.k.next
   have:=ih (i+1) J Z (.slice (p.next+1) 0 (xs.length+1) (xs.length+1) true) (p.next+1) (xs++[x]) (by omega) (by omega) (by omega) af ae (fun _=>by omega) (W.frame fun y=>ag _ (fb y)) ⟨by rw[lx,bm,cj,show([x].map Me.cells).flatten=(EV.agg x.cells).cells by simp[EV.cells]];exact O,fun z U=>by
    rcases bP.1 U with U|U
    ·exact P.rng z U
    ·rw[aP.1 U];exact rg⟩
   exact this
  ·have:decide ((i:Int)<(L.length:Int))=false:=by simp;omega
   simp only[this,Aa,Vz];rw[W.Hc];have w:=A0o A hK (X:=Y) (F:=fun j=>F j\/(0<xs.length/\j=q)) (v:=v) (b:=b) (L:=L) (fun y=>.inl (fb y)) hL (d:=d) (s:=s) (q:=q) (xs:=xs) (by omega) (fun y=>.inr ⟨y,rfl⟩) K 0 h1 Y (by omega) (by omega) (Ex.refl V) W P;refine Ok.mono w ?_;rintro _ h2 ⟨e2,Z,rfl,c2⟩;exact⟨e2,Z,rfl,c1.trans (c2.less fun j=>.inl)⟩
end
theorem A26(A:Bw disp)(hK:3000000<K){L:List Wr}(fb:0<L.length->F b)(hL:L.length<=2000000)(hd:28<=d)(C:Cu h B X F)(W:Axu h v b L):Ec (Ag TT disp K d false 59 [.ptr B.c 0,v] h) h B X F:=by
 obtain⟨e,rfl⟩:∃k,d=k+1:=⟨d-1,by omega⟩;rw[Ar7 A (by omega)];simp only[Am3,X4,Aa];rw[W.Hc];refine Ok.Am (Bjg (K:=K) fb hL K 0 h (by omega) (by omega) C W) ?_;rintro _ h2 ⟨⟨ok,rfl,hok⟩,g⟩;have c2:=C.Xa g;cases ok with
 | false=>
  simp only[Aa];exact Ec.ret c2
 | true=>
 have f:=hok rfl;simp only[Aa,Aei];refine Ok.Am (Aug A (by omega) c2.C (d:=e) (by omega)) ?_;rintro _ h3 ⟨e3,Y,rfl,c3⟩;have a:=c2.trans c3;simp only[I,Ac];by_cases h0:e3=0
 case neg=>
  simp only[h0,aF,aB,Aa];exact Ec.ret a
 simp only[h0,aC,aA,Aa,Aef];rw[a.C.ldN];have W3:Axu h3 v b L:=W.frame fun y=>a.k.get _ (C.M.lt _ (.inl (fb y))) fun w=>w (fb y)
 rw[W3.Hc];exact A13 A (by omega) (F:=F) (h:=h) fb f (d:=e) (by omega) (fun j hj=>C.M.lt _ (.inl hj)) Y.nx K 0 h3 Y .Al 0 [] (by omega) (by omega) rfl a (a.C.less fun j hj=>hj.elim id fun y=>absurd y.1 (bS 0)) (fun y=>absurd y (bS 0)) W3 ⟨Cc.nil _ _ _ _,fun x i=>by cases i⟩
end
variable {L:List Wr}
section
theorem Bo2(seq block many:Int):Aca (Dg [(0,1),(1,1),(2,1),(3,1),(4,1),(5,1),(6,32)]) [(0,I 2),(1,I seq),(2,I 1),(3,I block),(4,I many)] En.zero.cells=some (⟨2,seq,1,block,many,0,D4⟩:En).cells:=rfl
theorem Bqn:∀b∈D4,b<256:=fun b hb=>by rw[bc hb];decide
section
variable (A:Bw disp)(hK:10000<K)(C:Cu h B X F)
include A hK
omit A hK in
theorem Bhy {block many:Int}(b0:0<=block/\block<=1000)(o:0<=many/\many<=1000):∀(f:Nat) (b:Int) (h1:Ab) (Y:Co),block+many-b<f->block<=b->b<=block+many->Ex h h1 B X F Y ->
 Ec (Na (Ag TT disp K d false) (Ag TT disp K d true) K f (.ptr B.c 0) (I block) (I many) (I b) h1) h B X F:=by
 intro f;induction f with
 | zero=>intro b h1 Y g;omega
 | succ f i=>
  intro b h1 Y g j m c1;rw[Na];simp only[I,Ac];rw[Cg (n:=block+many) (by omega) (by omega)];by_cases a:b<block+many
  ·simp only[a,aB,Aa,Ah2]
   rw[c1.C.ldB,Aw (l:=(Me.nil 0).cells) rfl];refine Ec.then c1 (Av8 (K:=K) c1.C (x:=Me.nil 0) (fun y=>by cases y) b) fun e2 h2 Z c2=>?_
   simp only[Aiq,Ac];rw[Cg];exact i (b+1) h2 Z (by omega) (by omega) (by omega) c2
  ·simp only[a,aA,Aa,Ajg]
   exact Ec.ret c1
include C
theorem A7t(hd:28<=d)(block many:Int):Ec (Ag TT disp K d false 70 [.ptr B.c 0,I block,I many] h) h B X F:=by
 obtain⟨e,rfl⟩:∃k,d=k+1:=⟨d-1,by omega⟩;have:=C.sm.b1;rw[Atv A (by omega)];simp only[Api,Aa];refine Ok.Am (Bfs (K:=K) C block) ?_;rintro _ h2 ⟨rfl,j⟩;have c2:=C.Xa j;have m:D6 (.tuple []) false=false/\D6 (.tuple []) true=false:=⟨rfl,rfl⟩;cases n:(decide (0<=block)&&decide (block<X.S.g.B))with
 | false=>
  simp only[Aa,Ac,Rg,Mz];exact Ec.ret c2
 | true=>
 simp only[bL,bM]at n;simp only[Aa,Ac,I];by_cases h1:many<1
 ·simp only[h1,aB,Aa,Ac,Rg,Mz]
  exact Ec.ret c2
 simp only[h1,aA,Aa,Ac,Rg];rw[c2.C.ldM];refine Ok.Am (Mx (K:=K) c2.C.M c2.hb) ?_;rintro _ h3 ⟨rfl,o⟩;have c3:=c2.trans (c2.C.Xa o);unfold gV;rw[Ati (v:=I X.S.g.B) rfl];simp only[I,Ac];rw[Cg];by_cases h4:X.S.g.B-block<many
 ·simp only[h4,aB,Aa,Ac,Mz]
  exact Ec.ret c3
 simp only[h4,aA,Aa,Ac,Mz,Ai1];refine Ok.Am (Aug A hK c3.C (d:=e) (by omega)) ?_;rintro _ y ⟨e5,Y,rfl,c5⟩;have c5:=c3.trans c5;simp only[I,Ac];by_cases h0:e5=0
 case neg=>
  simp only[h0,aF,aB,Aa];exact Ec.ret c5
 simp only[h0,aC,aA,Aa,Ah4];rw[c5.C.ldN];have f:=Bo2 Y.nx block many;rw[<-En.Hj]at f;simp only[I]at f⊢;rw[Aw f];refine Ok.Am (Bdw A hK (d:=e) (by omega) (⟨Acj,Bqn⟩:(⟨2,Y.nx,1,block,many,0,D4⟩:En).Wf) c5.C) ?_;rintro _ D ⟨x,p,Z,⟨rfl,rg,a⟩⟩;have a:=c5.trans a;simp only[Aa];refine Ok.mk rfl rfl fun t u _ _=>?_
 have i:=a.trans (a.C.Xa u);simp only[I,Ac];by_cases h0:p=0
 case neg=>
  simp only[h0,aF,aB,Aa];exact Ec.ret i
 simp only[h0,aC,aA,Aa,Ahp];exact Bhy (K:=K) (d:=e) ⟨by omega,by omega⟩ ⟨by omega,by omega⟩ K block t Z (by omega) (by omega) (by omega) i
theorem Avq(hd:28<=d)(j:Int):Ec (Ag TT disp K d false 71 [.ptr B.c 0,I j] h) h B X F:=by
 obtain⟨e,rfl⟩:∃k,d=k+1:=⟨d-1,by omega⟩;rw[Auh A (by omega)];simp only[Apq,Aa];rw[C.ldB];refine Ok.Am (Tf (K:=K) C.sm C.map C.hb j) ?_;rintro _ h2 ⟨rfl,a⟩;have c2:=C.Xa a;simp only[Aa];generalize Aeu X.es j=ge;obtain⟨x,f⟩:=ge;simp only;refine Ok.mk rfl rfl fun h3 g e3 _=>?_
 have c3:=c2.trans (c2.C.Xa g);have i:D6 (.tuple []) false=false/\D6 (.tuple []) true=false:=⟨rfl,rfl⟩;simp only[I,Ac];by_cases h0:f=0
 case neg=>
  simp only[h0,aF,aB,Aa,Ac,R7];exact Ec.ret c3
 simp only[h0,aC,aA,Aa,Ac];rw[Ah e3 rfl (v:=I x.state) rfl];simp only[I,Ac];by_cases h1:x.state=1
 case neg=>
  simp only[h1,aF,aB,Aa,Ac,R7];exact Ec.ret c3
 simp only[h1,aC,aA,Aa,Ac,R7,Aim];refine Ok.Am (Aug A hK c3.C (d:=e) (by omega)) ?_;rintro _ n ⟨e5,Y,rfl,c5⟩;have c5:=c3.trans c5;simp only[I,Ac];by_cases h0:e5=0
 case neg=>
  simp only[h0,aF,aB,Aa];exact Ec.ret c5
 simp only[h0,aC,aA,Aa,Aia];exact Ec.then c5 (Bfu A hK c5.C (d:=e) (by omega) j) fun e6 o Z m=>Ec.ret m
theorem A3p(hd:15<=d):Ec (Ag TT disp K d false 72 [.ptr B.c 0] h) h B X F:=by
 obtain⟨e,rfl⟩:∃k,d=k+1:=⟨d-1,by omega⟩;rw[Ar2 A (by omega)];simp only[Ana,Aa];rw[C.ldM];exact A1s A hK C (d:=e) (by omega) fun e1 h1 a c1=>Ec.ret c1
theorem A6q(hd:29<=d)(j:Int):Ok (Ag TT disp K d false 47 [.ptr B.c 0,I j] h) fun v h'=>∃(bl:List Nat) (e:Int) (Y:Co),v=.tuple [.agg (Bk bl),I e]/\bl.length=32/\Ex h h' B X F Y:=by
 obtain⟨dd,rfl⟩:∃k,d=k+1:=⟨d-1,by omega⟩;rw[At2 A (by omega)];simp only[Aoy,Aa];rw[F3];obtain⟨h1,e_,x1,g4,n1⟩:=nW h (.cells (Bk D4) 85);rw[e_];have E:=C.ext x1;rw[E.ldB];refine Ok.Am (Tf (K:=K) E.sm E.map E.hb j) ?_;rintro _ h2 ⟨rfl,x2⟩;have rg:=A7l C.sm (A22 C.map.ok j);simp only[Aa];generalize Aeu X.es j=ge at rg⊢;obtain⟨x,er⟩:=ge;simp only at rg⊢;have ay:=x2.hb E.hb;refine Ok.mk rfl rfl fun h3 x3 e3 _=>?_
 have G:Ext h h3:=(x1.trans x2).trans x3;have f:=Ext.at (x2.trans x3) E.hb g4;have az:=(x2.trans x3).next
 have a:=C.ext G;have f4:Bi F h h3 h.next:=.inr ⟨aD _,by omega⟩
 have a1:D6 (.tuple []) false=false/\D6 (.tuple []) true=false:=⟨rfl,rfl⟩;have fin:∀(bl:List Nat) (e:Int) (h4:Ab) (Y:Co),bl.length=32->Ex h3 h4 B X (Bi F h h3) Y->h4.get h.next=some (.cells (Bk D4) 85)->Ok (stE 32 (.ptr h.next 0) (.agg (Bk bl)) h4 fun h=>Ii TT [.c (.ptr (h1.next-1) 0) 85,.v (.int .i64 e)] h) fun v h'=>∃(bl:List Nat) (e:Int) (Y:Co),v=.tuple [.agg (Bk bl),I e]/\bl.length=32/\Ex h h' B X F Y:=by
  intro bl e h4 Y hl c4 H;have ul:(Bk bl).length=32:=by rw[Bg,hl]
  have l4:=c4.hb _ _ H;rw[show h1.next-1=h.next by omega];refine Ok.st (Bk bl) H rfl (by show Fl (Bk bl)=32;rw[Bf,ul]) (Bm (by show(Bk D4).length=(Bk bl).length;rw[ul,Bg,Acj])) ?_;rw[Ea (Ae _ _ _) Arw.1 Arw.2 ul];exact .ret ⟨bl,e,Y,rfl,hl,Ex.Bnu G c4 ((Au.refl (S:=fun i=>i=h.next) h4).Ao (.inl rfl) l4 _) (fun i J=>by subst J;omega) (c4.hb.put l4 _)⟩
 rw[show h1.next-1=h.next by omega]at fin;have z:=fun e h4 Y c g=>fin D4 e h4 Y rfl c g
 have O:∀k:EV->R,Bo (Mg 1) (Bk D4) [] k=k (.agg (Bk D4)):=fun k=>Aw rfl
 simp only[I,Ac];by_cases h0:er=0
 case neg=>
  simp only[h0,aF,aB,Aa,Ac,Rz];rw[F3,O];exact z _ _ X (Ex.refl a) f
 simp only[h0,aC,aA,Aa,Ac];rw[Ah e3 rfl (v:=I x.state) rfl];simp only[I,Ac];by_cases U:x.state=0
 ·simp only[U,aB,Aa,Ac,Rz]
  rw[F3,O];exact z _ _ X (Ex.refl a) f
 simp only[U,aA,Aa,Ac,Rz];rw[Ah e3 rfl (v:=I x.state) rfl];simp only[I,Ac];by_cases V:x.state=2
 ·simp only[V,aB,Aa,Ac]
  rw[F3,O];exact z _ _ X (Ex.refl a) f
 simp only[V,aA,Aa,Ac,Ahj];have lc:=a.hb _ _ a.core;have l6:=a.hb _ _ e3;rw[Gy lc,a.ldM];simp only[Aa,Ar];rw[Gy l6,Cn e3 rfl (Ak (n:=6) rfl)];simp only[Aa,Ar];refine Ok.bC (S:=fun j=>¬B.fr (Bi F h h3) j) (A5g A hK (d:=dd) (by omega) a.lift.M a.lift.hb rg.1 rg.2) (fun _ _ p=>p.2.2.2.1) ?_;rintro _ a5 h4 s' ⟨rfl,bw,M',_,ag⟩ sm ch ah;have c4:=a.Hf (M'.same sm) ch (sm.hb ag) (Bat _ x);generalize X.S.check x=P at c4 bw⊢;obtain⟨S',bl,n,er⟩:=P;simp only at c4 bw⊢;generalize ({ X with S:=S' }:Co)=Y at c4⊢;have ul:(Bk bl).length=32:=by rw[Bg,bw]
 simp only[Aa];rw[Gh (by rcases ah with rfl|⟨w,rfl,_⟩<;>kernel_rfl)];refine Ok.st (Bk bl) (Ad _ _) rfl (by show Fl (Bk bl)=32;rw[Bf,ul]) (Bm (by rw[bT];exact ul.symm)) ?_;obtain⟨h5,e_,x5,g8,n5⟩:=nP h4 (.cells (List.replicate 32 (EV.int .u8 0)) 85) (.cells (Bk bl) 85);rw[e_];have c5:=c4.trans (c4.C.Xa x5);have y:=c5.k.at a.hb f f4;simp only[I,Ac];by_cases h0:er=0
 case neg=>
  simp only[h0,aF,aB,Aa];rw[F3,O];exact z _ _ _ c5 y
 simp only[h0,aC,aA,Aa,Aij,Ac];have o:∀t Z,Ex h3 t B X (Bi F h h3) Z->t.get h.next=some (.cells (Bk D4) 85)->t.get h4.next=some (.cells (Bk bl) 85)->Ok (Yn (Ag TT disp K dd false) (Ag TT disp K dd true) K (.ptr h.next 0) (.ptr h4.next 0) t) fun v h'=>∃(bl:List Nat) (e:Int) (Y:Co),v=.tuple [.agg (Bk bl),I e]/\bl.length=32/\Ex h h' B X F Y:=fun t Z u m D=>by
  simp only[Yn,dr];rw[Cn D rfl (Ak ul)];exact fin bl 0 t Z bw u m
 by_cases hn:n<2
 case neg=>
  simp only[hn,aA,Aa,Ac,Xf];exact o h5 _ c5 y g8
 simp only[hn,aB,Aa,Ac];have C5:Cu h5 B Y (fun i=>Bi F h h3 i\/i=h4.next):=(c4.C.ext x5).less fun i J=>by
  rcases J with J|rfl
  ·exact .inl J
  ·exact .inr ⟨aD _,by omega⟩
 refine Ok.Am (Avq A hK C5 (d:=dd) (by omega) j) ?_;rintro _ t ⟨e6,Z,rfl,u⟩;have m:=u.k.at c5.hb y (.inl f4);have D:=u.k.at c5.hb g8 (.inr rfl);have u:=c5.trans (u.less fun i=>.inl);simp only[I,Ac,Xf];by_cases W:e6=34
 ·simp only[W,aB,Aa]
  rw[F3,O];exact z _ _ _ u m
 ·simp only[W,aA,Aa]
  exact o t _ u m D
end
end
theorem A9d(hK:1000<K)(hb:HB h)(m:Nat):Ok (Aoo K (.ptr m 0) h) fun v h'=>v=.ptr h.next 0/\h'.get h.next=some (.cells (arC m (fun _=>-1) fun _=>-1) 212)/\Ext h h'/\HB h':=by
 obtain⟨j,rfl⟩:∃k,K=k+4:=⟨K-4,by omega⟩;simp only[Aoo,dr];rw[Aw (l:=arC m (fun _=>0) fun _=>0) rfl];simp only[Aa];have p:Ext h (h.new (.cells (arC m (fun _=>0) fun _=>0) 212)):=Au.new _ _;have t:(h.new (.cells (arC m (fun _=>0) fun _=>0) 212)).get h.next=some (.cells (arC m (fun _=>0) fun _=>0) 212):=Ad _ _
 have l1:h.next<(h.new (.cells (arC m (fun _=>0) fun _=>0) 212)).next:=aR _
 generalize h.new (.cells (arC m (fun _=>0) fun _=>0) 212)=h1 at p t l1⊢;have st:∀(i:Nat) (h2:Ab) (c o:Nat->Int) (n:Nat),i<3->h2.get h.next=some (.cells (arC m c o) 212)->Ext h h2->h.next<h2.next->(∀h3,h3.get h.next=some (.cells (arC m (N9 c i (-1)) (N9 o i (-1))) 212)->Ext h h3->h.next<h3.next->Ok (Td (j+4) n (.ptr h.next 0) (I (i+1:Nat)) h3) fun v h'=>v=.ptr h.next 0/\h'.get h.next=some (.cells (arC m (fun _=>-1) fun _=>-1) 212)/\Ext h h'/\HB h')->Ok (Td (j+4) (n+1) (.ptr h.next 0) (I i) h2) fun v h'=>v=.ptr h.next 0/\h'.get h.next=some (.cells (arC m (fun _=>-1) fun _=>-1) 212)/\Ext h h'/\HB h':=by
  intro i h2 c o n u f g a D;rw[Td];simp only[I,Ac];have:decide ((i:Int)<3)=true:=by simp;omega
  simp only[this,Aa,Ay4];rw[Aw (l:=[I (-1),I (-1)]) rfl]
  try simp only[Aa]
  rw[Vo u];refine Ok.st _ f rfl rfl (Bb8 u (-1) (-1)) ?_;simp only[Ay6,Ac];rw[Cg,show((i:Nat):Int)+1=((i+1:Nat):Int) by omega];exact D _ (Ae _ _ _) (g.Ao (.inr (aD _)) a _) a
 refine st 0 h1 _ _ _ (by omega) t p l1 fun h2 f g a=>st 1 h2 _ _ _ (by omega) f g a fun h3 E G H=>st 2 h3 _ _ _ (by omega) E G H fun h4 J y M=>?_
 rw[Td];simp only[I,Ac];simp only[show decide (((2+1:Nat):Int)<3)=false from rfl,Aa,Ayg];exact .ret ⟨rfl,J,y,y.hb hb⟩
theorem Baw(z:List EV):∀n,rep z n=(List.replicate n z).flatten
 | 0=>rfl
 | n+1=>by rw[eF,br,<-Baw z n];rfl
theorem Bqd(n:Nat):((List.replicate n (Me.nil 0)).map Me.cells).flatten=rep (List.replicate 6 (.int .i64 0)) n:=by
 rw[Baw,fT];rfl
theorem A40(z:Int):∀n,Wq (List.replicate n (Me.nil 0)) z=0
 | 0=>rfl
 | n+1=>by
  rw[eF,Z7,A40 z n];unfold Ajl;rw[aM (fun y=>by cases y.1)];rfl
theorem Bmg(n m:Nat):((List.range n).map fun(z:Nat)=>I (Wq (List.replicate m (Me.nil 0)) z))=rep [.int .i64 0] n:=by
 rw[Btg];have:(fun(z:Nat)=>I (Wq (List.replicate m (Me.nil 0)) z))=fun _=>EV.int .i64 0:=by funext z;rw[A40]
 rw[this,Ayd]
theorem Axa {g:Gm}(W:rtB g=true)(hb:HB h):Ok (Yd K (gV g) h) fun v h'=>∃b ml ll,v=.tuple [.ptr b 0,I 0]/\Lj h' b ml ll g (List.replicate g.B.toNat (Me.nil 0))/\Ext h h'/\HB h'/\h.next<=b/\h.next<=ml/\h.next<=ll:=by
 have s:=Ul W;have:=s.b0;have:=s.b1;have:=s.d0;have:=s.d1;have:=s.z0;have:=s.z1;obtain⟨m0,m1⟩:=N3 (a:=g.D) (b:=g.Z) (A:=8) (B:=64) (by omega) (by omega) (by omega) (by omega);simp only[Yd,gV,Aa];obtain⟨h1,O,t,g1,n1⟩:=nW h (.cells (gL g) 23);rw[O];have u:=t.hb hb;rw[Cy g1 rfl,Ak (n:=6) rfl]
 try simp only[Aa]
 rw[show EV.agg (gL g)=gV g from rfl];refine(Vg (K:=K) g h1).Am ?_;rintro _ h2 ⟨rfl,m⟩;have f:=m.hb u;have H:=m.at u g1;have S:=f _ _ H;simp only[W,Aa,Ay5];rw[Gy S,Cy H rfl,Ak (n:=6) rfl];simp only[Aa,Ar];rw[Gy S,Ah H rfl (v:=I g.B) rfl];simp only[Aa,Ar];have hB:I g.B=I (g.B.toNat:Int):=by rw[fM (by omega)]
 rw[hB,Avl (by omega),Ap];have o:Ext h2 (h2.new (.cells (rep (List.replicate 6 (.int .i64 0)) g.B.toNat) 53)):=Au.new _ _;have g3:(h2.new (.cells (rep (List.replicate 6 (.int .i64 0)) g.B.toNat) 53)).get h2.next=some (.cells (rep (List.replicate 6 (.int .i64 0)) g.B.toNat) 53):=Ad _ _
 have n3:(h2.new (.cells (rep (List.replicate 6 (.int .i64 0)) g.B.toNat) 53)).next=h2.next+1:=rfl
 have e3:([EV.int .i64 0,.int .i64 0,.int .i64 0,.int .i64 0,.int .i64 0,.int .i64 0]:List EV)=List.replicate 6 (.int .i64 0):=rfl;rw[e3];generalize h2.new (.cells (rep (List.replicate 6 (.int .i64 0)) g.B.toNat) 53)=h3 at o g3 n3⊢;have i:=o.hb f;have y:=o.at f H;have l3:=i _ _ y;rw[Gy (show h.next<h2.next from S),Cy y rfl,Ak (n:=6) rfl];simp only[Aa,Ar];rw[show EV.agg (gL g)=gV g from rfl];refine Ok.Bu0 (P:=fun v h'=>v=I (g.D*g.Z)/\Ext (H4 16 ⟨0,[(Nat.shiftLeft 1 3,h2.next)],[(Nat.shiftLeft 1 4,h.next),(Nat.shiftLeft 1 2,h.next),(Nat.shiftLeft 1 0,h.next)],[],[]⟩ h3) h') (by kernel_rfl) ?_ (fun _ _ p=>p.2) ?_
 ·rw[Ni s]
  exact .ret ⟨rfl,Au.new _ _⟩
 ·rintro _ ae h4 ⟨rfl,af⟩ eg en E
  have G:=E.hb i;have U:=E.at i g3;have hN:I (g.D*g.Z)=I ((g.D*g.Z).toNat:Int):=by rw[fM (by omega)]
  try simp only[Aa,Ar]
  rw[hN,Avl (by omega),Ap];obtain⟨V,O,J,g5,n5⟩:=nW h4 (.cells (rep [.int .i64 0] (g.D*g.Z).toNat) 3);rw[O];have j:=J.hb G;rw[Aw (l:=gL g++[.slice h2.next 0 g.B.toNat g.B.toNat false,.slice h4.next 0 (g.D*g.Z).toNat (g.D*g.Z).toNat false]) rfl];simp only[Aa,Ar];have M:Ext V (V.new (.cells (gL g++[.slice h2.next 0 g.B.toNat g.B.toNat false,.slice h4.next 0 (g.D*g.Z).toNat (g.D*g.Z).toNat false]) 143)):=Au.new _ _;refine .ret ⟨V.next,h2.next,h4.next,rfl,⟨Ad _ _,by rw[Bqd];exact M.at j (J.at G U),by rw[Bmg];exact M.at j g5,by rw[bT],fun x hx=>by rw[bc hx];unfold meR;rw[aQ (.inl rfl)];exact aJ rfl⟩,((((t.trans m).trans o).trans E).trans J).trans M,M.hb j,?_,?_,?_⟩
  ·have:=t.next;have:=m.next;have:=o.next;have:=E.next;have:=J.next;omega
  ·have:=t.next;have:=m.next;omega
  ·have:=t.next;have:=m.next;have:=o.next;have:=E.next;omega
end Go.Ev
