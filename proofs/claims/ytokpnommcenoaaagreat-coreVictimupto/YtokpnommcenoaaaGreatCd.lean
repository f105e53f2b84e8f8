import Derived.Test.YtokpnommcenoaaaGreatCc
import Derived.Test.YtokpnommcenoaaaGreatVb
set_option linter.all false
namespace Go.Ev
open Go.Proofs
set_option maxRecDepth 100000
variable {h h' h1:Ab}{B:Cb}{X Y:Co}{F T:Nat->Prop}{e:En}{x:Me}{k:EV->Ab->R}{K b d q:Nat}{Q:EV->Ab->Prop}{v:EV}{disp:Nat->Option FT}
section
def Fe(x:R)(h:Ab)(B:Cb)(X:Co)(F:Nat->Prop):Prop:=Ok x fun v h'=>∃(e:Int) (Y:Co),v=I e/\Hc h h' B X F Y
theorem Fe.ret{e:Int}(c:Hc h h' B X F Y):Fe (some (.int .i64 e,h')) h B X F:=Ok.ret ⟨e,Y,rfl,c⟩
theorem Fe.from {x:R}(c:Hc h h1 B X F Y)(a:Fe x h1 B Y F):Fe x h B X F:=by
 refine Ok.mono a ?_;rintro v h' ⟨e,Z,rfl,c2⟩;exact⟨e,Z,rfl,c.trans c2⟩
theorem Fe.then {x:R}(c:Hc h h1 B X F Y)(a:Fe x h1 B Y F)(b:∀e h' Z,Hc h h' B X F Z->Fe (k (.int .i64 e) h') h B X F):Fe (Ap x k) h B X F:=by
 refine Ok.Ap a ?_;rintro v h' ⟨e,Z,rfl,c2⟩;exact b e h' Z (c.trans c2)
theorem Bm0(S:Mi)(z:Int):Mk S (S.A86 z):=⟨rfl,Dk.refl _⟩
section
variable (A:Ca disp)(hK:10000<K)(C:Eb h B X F)
include A hK C
theorem Bem(hd:18<=d){z:Int}(f:Tk z):Fe (Ag TT disp K d false 197 [.ptr B.m 0,I z] h) h B X F:=by
 refine Ok.mono (Xe A hK C.M C.hb hd f) ?_;rintro v h' ⟨rfl,g,k,a⟩;exact⟨_,_,rfl,C.Iv g k a (Zz _ _)⟩
theorem Bdg(hd:8<=d){z:Int}(f:Tk z)(i:0<=Ej X.S.g z->¬X.S.bad z.toNat=1):Fe (Ap (Bw K (.ptr B.m 0) h) fun v h=>Ap (Ag TT disp K d false 67 [v,I z] h) fun v h=>some (v,h)) h B X F:=by
 obtain⟨p,e1,e2⟩:=A6s C.M C.hb A hK;rw[e1,Au];refine Ok.Ap (e2 hd f i) ?_;rintro v h' ⟨rfl,j,k,a⟩;exact .ret ⟨_,_,rfl,C.Iv j k a (Bm0 _ _)⟩
theorem Ax8(hd:14<=d)(f:∀e h' Y,Hc h h' B X F Y->Ok (k (.int .i64 e) h') Q):Ok (Ap (Bx K (.ptr B.m 0) h) fun v h=>Ap (Ag TT disp K d false 140 [v] h) k) Q:=by
 obtain⟨D,V,dr⟩:=Akd A hK C.M C.hb;rw[dr.Dc];refine Ok.Ap (dr.flush hd) ?_;rintro v h' ⟨rfl,g,kf,a⟩;exact f _ _ _ (C.Iv g kf a (A5t (As9 _)))
theorem A93(hd:19<=d){z:Int}(i:Tk z)(m:0<=Ej X.S.g z->¬X.S.bad z.toNat=1):Fe (Ag TT disp K d false 143 [.ptr B.c 0,I z] h) h B X F:=by
 obtain⟨e,rfl⟩:∃k,d=k+1:=⟨d-1,by omega⟩;rw[Amt A (by omega)];simp only[Agd,Aa];rw[C.ldM];obtain⟨D,V,dr⟩:=Akd A hK C.M C.hb;rw[dr.Dc];refine Ok.Ap (dr.reset (d:=e) (by omega) z (by rw[(Aj6 X.S.dr z).size];exact C.wf.sz)) ?_;rintro v h2 ⟨rfl,M2,n,f⟩;have c2:=C.Iv M2 n f (A5t (A5i _ z));generalize (X.S.dr.reset z).2=j;simp only[I,Ad];by_cases h0:j=0
 ·simp only[h0,aB,Aa]
  rw[c2.C.ldM];exact Fe.from c2 (Bdg A hK c2.C (d:=e) (by omega) i m)
 simp only[h0,aA,Aa,Ad];by_cases a:j=34
 ·simp only[a,aB,Aa]
  exact Fe.ret c2
 simp only[a,aA,Aa,Aad];rw[c2.C.ldM];refine Fe.then c2 (Bem A hK c2.C (d:=e) (by omega) i) fun e3 h3 Z c3=>?_
 simp only[Ad];by_cases h3:e3=34
 ·simp only[h3,aB,Aa]
  exact Fe.ret c3
 ·simp only[h3,aA,Aa,Abk]
  exact Fe.ret c3
omit C in
theorem A84 {n:Nat}(y:X.S.g.D*X.S.g.Z=n)(hd:19<=d):∀(f i:Nat) (h1:Ab) (Y:Co),n-i<f->i<=n->Hc h h1 B X F Y ->
 Fe (F3 (Ag TT disp K d false) (Ag TT disp K d true) K f (.ptr B.c 0) (I n) (I i) h1) h B X F:=by
 intro f;induction f with
 | zero=>intro i h1 Y j;omega
 | succ f m=>
  intro i h1 Y j E c1;have o:Y.S.g=X.S.g:=c1.ck.g;have bd:=c1.C.sm.Wj;rw[o]at bd;rw[F3];simp only[I,Ad];by_cases p:i<n
  ·have:decide ((i:Int)<(n:Int))=true:=by simp;omega
   simp only[this,Aa,Vm];refine Ok.Ap (Bbs A hK c1.C (d:=d) (by omega) (z:=i) ⟨by omega,by omega⟩) ?_;rintro v h2 ⟨rfl,t⟩;have c2:=c1.trans (c1.C.rd t);have nx:∀h3 Z,Hc h h3 B X F Z->Fe (Kb (Ag TT disp K d false) (Ag TT disp K d true) K (F3 (Ag TT disp K d false) (Ag TT disp K d true) K f) (.ptr B.c 0) (.int .i64 (n:Int)) (.int .i64 (i:Int)) h3) h B X F:=fun h3 Z c3=>by
    simp only[Kb,Ad];rw[Cn (by omega) (by omega),show((i:Nat):Int)+1=((i+1:Nat):Int) by omega];exact m (i+1) h3 Z (by omega) (by omega) c3
   cases a:Y.dead i with
   | false=>
    simp only[Aa];exact nx _ _ c2
   | true=>
    simp only[Aa,Vz];have u:0<=Ej Y.S.g i->¬Y.S.bad (i:Int).toNat=1:=by
     unfold Co.dead Co.closed at a;simp only[bI,Bool.not_eq_true']at a;exact A7c a.1.2.2.2.1
    refine Fe.then c2 (A93 A hK c2.C hd (z:=i) ⟨by omega,by omega⟩ u) fun e3 h3 Z c3=>?_
    simp only[Ad];by_cases h0:e3=0
    ·simp only[h0,aD,aA,Aa]
     exact nx _ _ c3
    ·simp only[h0,aG,aB,Aa]
     exact Fe.ret c3
  ·have:decide ((i:Int)<(n:Int))=false:=by simp;omega
   simp only[this,Aa,Vq];exact Fe.ret c1
theorem Z9(hd:21<=d):Fe (Ag TT disp K d false 73 [.ptr B.c 0] h) h B X F:=by
 obtain⟨e,rfl⟩:∃k,d=k+1:=⟨d-1,by omega⟩;rw[Aic A (by omega)];simp only[Abp,Aa];rw[C.ldM];refine Ax8 A hK C (d:=e) (by omega) fun e1 h1 f c1=>?_
 simp only[Ad];by_cases h0:e1=0
 case neg=>
  simp only[h0,aG,aB,Aa];exact Fe.ret c1
 simp only[h0,aD,aA,Aa,Vg];rw[c1.C.ldG];simp only[I,Ad];have lc:=c1.hb _ _ c1.C.core;refine Ok.Zl c1.C.core rfl rfl (by show 3<7;decide) ?_;have c2:=c1.trans (c1.C.Bg0 (Cx .i64 (f.gen+1)) f.ep f.nx f.st);have e2:(f.cells B).set 3 (.int .i64 (Cx .i64 (f.gen+1)))=({ f with gen:=Cx .i64 (f.gen+1),ep:=f.ep,nx:=f.nx,st:=f.st }:Co).cells B:=rfl;rw[e2];generalize ({ f with gen:=Cx .i64 (f.gen+1),ep:=f.ep,nx:=f.nx,st:=f.st }:Co)=o at c2⊢;generalize h1.put B.c (.cells (o.cells B) 130)=h2 at c2⊢;have i:=c2.hb _ _ c2.C.core;rw[Ah i (by kernel_rfl),c2.C.ldA];simp only[Aa,Aw];rw[Ah i (by kernel_rfl),c2.C.ldG];simp only[Aa,Aw];rw[Ah i (by kernel_rfl),c2.C.ldE];simp only[Aa,Aw];rw[Ah i (by kernel_rfl),c2.C.ldN];simp only[Aa,Aw];rw[Ah i (by kernel_rfl),c2.C.ldB];simp only[Aa,Aw];rw[Az (l:=[I o.gen,I o.ep,I o.nx,.ptr B.b 0]) rfl];obtain⟨n1,n2,n3,n4,G,H,J,n8,n9,O⟩:=c2.C.ne;have t:=c2.C.lift;have wr:=Bhb (K:=K) A hK (ar:=B.ar) (m:=B.m) (b:=B.b) (ml:=B.ml) (ll:=B.ll) (F:=B.fr F) (es:=o.es) (.inr (.inr (.inl rfl))) ⟨.inr (.inr (.inr (.inl rfl))),.inr (.inr (.inr (.inr (.inl rfl)))),.inr (.inr (.inr (.inr (.inr rfl)))),G.symm,H.symm,J.symm⟩ (x:=o.gen) (y:=o.ep) (z:=o.nx) (d:=e) (by omega) t.M t.hb t.ar t.map t.wf.rt t.wf.sz t.wf.an;refine Ok.Yh (S:=fun j=>¬B.fr F j\/j=B.ar) (by kernel_rfl) (by kernel_rfl) (fun _=>by kernel_rfl) wr (fun _ _ p=>by obtain⟨_,_,_,_,_,_,a⟩:=p;exact a.c) ?_;rintro _ P h3 s' ⟨n',U,S',cur',old',rfl,a⟩ sm V W;have c3:=c2.trans (c2.C.Bpe (a.M.same sm) (by rw[sm.get];exact a.A) V (sm.hb a.hb) a.kk a.an);simp only[Aa,I,Ad];by_cases u:U=0
 case neg=>
  simp only[u,aG,aB,Aa];exact Fe.ret c3
 simp only[u,aD,aA,Aa,Vt];rw[c3.C.ldM];refine An0 A c3.C fun h4 x4=>?_
 have c4:=c3.trans (c3.C.toE x4);have gY:=c4.ck.g;rw[gY];have bd:=C.sm.Wj;obtain⟨n,E⟩:=bD (show 0<=X.S.g.D*X.S.g.Z by omega);rw[E];exact A84 A hK E (d:=e) (by omega) K 0 h4 _ (by omega) (by omega) c4
end
end
section
section
variable {h2 h3:Ab}
theorem Hc.Bj6(x:Ext h h1)(c:Hc h1 h2 B X (Bh F h h1) Y)(t:Ar T h2 h3)(g:∀i,T i->h.next<=i/\i<h1.next)(a:HB h3):Hc h h3 B X F Y:=
 ⟨(c.C.Ai3 t (fun i f _=>.inr (g i f)) a).less fun _=>.inl,(x.Arq c.k).then t fun i f j=>by have:=g i f;omega,c.ck⟩
end
structure Bit(h h':Ab)(B:Cb)(X:Co)(F:Nat->Prop)(v:EV)(x:Me)(e:Int)(Y:Co):Prop where
 v:v=.tuple [.agg x.cells,I e]
 r:Tk x.An/\Tk x.Br
 c:Hc h h' B X F Y
theorem Bkk(s:Int):Tk (Me.nil s).An/\Tk (Me.nil s).Br:=⟨⟨by show _<=(0:Int);omega,by show(0:Int)<=_;omega⟩,⟨by show _<=(0:Int);omega,by show(0:Int)<=_;omega⟩⟩
section
variable (A:Ca disp)(hK:10000<K)
include A hK
theorem Bdk(hd:20<=d)(w:e.Wf)(C:Eb h1 B X F){v3 v4:Nat}{G:Me}(W:h1.get v3=some (.cells e.cells 203))(E:h1.get v4=some (.cells G.cells 53))(f4:F v4):
 Ok (O3 (Ag TT disp K d false) (Ag TT disp K d true) K (.ptr B.c 0) (.ptr v3 0) (.ptr v4 0) h1) fun v h'=>∃(x:Me) (a:Int) (Z:Co) (h2:Ab),v=.tuple [.agg x.cells,I a]/\(Tk x.An/\Tk x.Br)/\Hc h1 h2 B X F Z/\Ar (fun i=>i=v4) h2 h'/\HB h':=by
 have lc:=C.hb _ _ C.core;have l3:=C.hb _ _ W;have el:=En.Bk w;simp only[O3,Aa];rw[Ah lc (by kernel_rfl),C.ldM];simp only[Aa,Aw];rw[Ah l3 (by kernel_rfl),Dj W rfl (Am el)];simp only[Aa,Aw];rw[Ah lc (by kernel_rfl),C.ldE];simp only[Aa,Aw];rw[Ah lc (by kernel_rfl),C.ldN];simp only[Aa,Aw];have C':=C.lift;have pl:=Bcr A hK (d:=d) hd C'.M C'.hb w X.ep X.nx;have H:=Bdx C.M.wf e X.ep X.nx;refine Ok.Yh (S:=fun j=>¬B.fr F j) (by kernel_rfl) (by kernel_rfl) (fun _=>by kernel_rfl) pl (fun _ _ p=>p.2.2.1) ?_;rintro _ ae h2 s' ⟨rfl,M',_,J⟩ sm ch O;have c2:=C.Iv (M'.same sm) ch (sm.hb J) (Bjc _ e X.ep X.nx);have u:=c2.k.at C.hb E f4;generalize X.S.place e X.ep X.nx=P at c2 H⊢;obtain⟨S',x,a⟩:=P;simp only at c2 H⊢;generalize ({ X with S:=S' }:Co)=Y at c2⊢;simp only[Aa];rw[Kh (by rcases O with rfl|⟨w,rfl,_⟩<;>kernel_rfl)];refine Ok.stW (Ac _ _) rfl rfl ?_;have U:Ext h2 ((h2.new (.cells [EV.int .i64 0,.int .i64 0,.int .i64 0,.int .i64 0,.int .i64 0,.int .i64 0] 53)).put h2.next (.cells x.cells 53)):=(Ar.new h2 _:Ext _ _).Ak (.inr (aC _)) (aE _) _;have e3:((h2.new (.cells [EV.int .i64 0,.int .i64 0,.int .i64 0,.int .i64 0,.int .i64 0,.int .i64 0] 53)).put h2.next (.cells x.cells 53)).get h2.next=some (.cells x.cells 53):=Ae _ _ _
 generalize (h2.new (.cells [EV.int .i64 0,.int .i64 0,.int .i64 0,.int .i64 0,.int .i64 0,.int .i64 0] 53)).put h2.next (.cells x.cells 53)=h3 at U e3⊢
 have c3:=c2.trans (c2.C.toE U);have f:=U.at c2.hb u;have ah:h2.next≠v4:=by have:=c2.hb _ _ u;omega
 have l7:=c3.hb _ _ e3;have fin:∀(h4:Ab) (Z:Co),Hc h1 h4 B X F Z->h4.get h2.next=some (.cells x.cells 53)->h4.get v4=some (.cells G.cells 53)->Ok (Zc (Ag TT disp K d false) (Ag TT disp K d true) K (.ptr v4 0) (.ptr h2.next 0) (.int .i64 a) h4) fun v h'=>∃(x:Me) (a:Int) (Z:Co) (h2:Ab),v=.tuple [.agg x.cells,I a]/\(Tk x.An/\Tk x.Br)/\Hc h1 h2 B X F Z/\Ar (fun i=>i=v4) h2 h'/\HB h':=by
  intro h4 Z c4 g7 E;have l4:=c4.hb _ _ E;simp only[Zc,dr];rw[Dj g7 rfl (Am (n:=6) rfl)];refine Ok.stW E rfl rfl ?_;rw[Fu (Ae _ _ _) A0l.1 A0l.2 rfl];exact .ret ⟨x,a,Z,h4,rfl,H,c4,(Ar.refl (S:=fun i=>i=v4) h4).Ak (.inl rfl) l4 _,c4.hb.put l4 _⟩
 simp only[I,Ad];have V:∀i,B.own i->i≠v4:=fun i hi y=>by subst y;exact C.out _ f4 hi
 have g:B.c≠h2.next:=by have:=c2.hb _ _ c2.C.core;omega
 have m:=V _ (.inl rfl);by_cases h0:a=0
 ·simp only[h0,aB,Aa]at fin⊢
  rw[c3.C.ldN];simp only[I,Ad];refine Ok.Zl c3.C.core rfl rfl (by show 5<7;decide) ?_;exact fin _ _ (c3.trans (c3.C.Bg0 Y.gen Y.ep (Cx .i64 (Y.nx+1)) Y.st)) (by rw[Af _ g];exact e3) (by rw[Af _ m];exact f)
 simp only[h0,aA,Aa,Ad];by_cases D:a=40
 ·simp only[D,aB,Aa]at fin⊢
  rw[c3.C.ldN];simp only[I,Ad];refine Ok.Zl c3.C.core rfl rfl (by show 5<7;decide) ?_;have c4:=c3.trans (c3.C.Bg0 Y.gen Y.ep (Cx .i64 (Y.nx+1)) Y.st);have e4:(Y.cells B).set 5 (.int .i64 (Cx .i64 (Y.nx+1)))=({ Y with gen:=Y.gen,ep:=Y.ep,nx:=Cx .i64 (Y.nx+1),st:=Y.st }:Co).cells B:=rfl;rw[e4];have o:(h3.put B.c (.cells (({ Y with gen:=Y.gen,ep:=Y.ep,nx:=Cx .i64 (Y.nx+1),st:=Y.st }:Co).cells B) 130)).get h2.next=some (.cells x.cells 53):=by rw[Af _ g];exact e3
  have t:(h3.put B.c (.cells (({ Y with gen:=Y.gen,ep:=Y.ep,nx:=Cx .i64 (Y.nx+1),st:=Y.st }:Co).cells B) 130)).get v4=some (.cells G.cells 53):=by rw[Af _ m];exact f
  generalize ({ Y with gen:=Y.gen,ep:=Y.ep,nx:=Cx .i64 (Y.nx+1),st:=Y.st }:Co)=Z at c4 o t⊢;generalize h3.put B.c (.cells (Z.cells B) 130)=h4 at c4 o t⊢;refine Ok.Zl c4.C.core rfl rfl (by show 6<7;decide) ?_;exact fin _ _ (c4.trans (c4.C.Bg0 Z.gen Z.ep Z.nx true)) (by rw[Af _ g];exact o) (by rw[Af _ m];exact t)
 ·simp only[D,aA,Aa]
  exact fin _ _ c3 e3 f
theorem A8u(hd:22<=d)(w:e.Wf)(C:Eb h B X F):Ok (Ag TT disp K d false 127 [.ptr B.c 0,.agg e.cells] h) fun v h'=>∃x a Y,Bit h h' B X F v x a Y:=by
 obtain⟨dd,rfl⟩:∃k,d=k+1:=⟨d-1,by omega⟩;rw[Asu A (by omega)];simp only[Aqp,Aa];rw[show(h.new (.cells e.cells 203)).next=h.next+1 from rfl];have m:Ext h ((h.new (.cells e.cells 203)).new (.cells (Me.nil 0).cells 53)):=(Ar.new _ _).Di _;have D:((h.new (.cells e.cells 203)).new (.cells (Me.nil 0).cells 53)).next=h.next+2:=rfl
 have u:((h.new (.cells e.cells 203)).new (.cells (Me.nil 0).cells 53)).get h.next=some (.cells e.cells 203):=by rw[Ay _ (aE _)];exact Ac _ _
 have n:((h.new (.cells e.cells 203)).new (.cells (Me.nil 0).cells 53)).get (h.next+1)=some (.cells (Me.nil 0).cells 53):=Ac _ _;rw[show[EV.int .i64 0,.int .i64 0,.int .i64 0,.int .i64 0,.int .i64 0,.int .i64 0]=(Me.nil 0).cells from rfl];generalize (h.new (.cells e.cells 203)).new (.cells (Me.nil 0).cells 53)=h1 at m D u n⊢;have f:=C.ext m;have f3:Bh F h h1 h.next:=.inr ⟨aC _,by omega⟩
 have f4:Bh F h h1 (h.next+1):=.inr ⟨by omega,by omega⟩;rw[f.ldS];have go:∀h2 Y,Hc h1 h2 B X (Bh F h h1) Y->Ok (O3 (Ag TT disp K dd false) (Ag TT disp K dd true) K (.ptr B.c 0) (.ptr h.next 0) (.ptr (h.next+1) 0) h2) fun v h'=>∃x a Y,Bit h h' B X F v x a Y:=fun h2 Y c2=>by
  refine Ok.mono (Bdk A hK (d:=dd) (by omega) w c2.C (c2.k.at f.hb u f3) (c2.k.at f.hb n f4) f4) ?_;rintro v h4 ⟨x,a,Z,h3,rfl,r,c3,t,o⟩;exact⟨x,a,Z,rfl,r,Hc.Bj6 m (c2.trans c3) t (fun i p=>by subst p;omega) o⟩
 cases X.st with
 | false=>
  simp only[Aa];exact go h1 X (Hc.refl f)
 | true=>
  simp only[Aa];refine Ok.Ap (Z9 A hK f (d:=dd) (by omega)) ?_;rintro _ h2 ⟨e2,Y,rfl,c2⟩;have g:=c2.k.at f.hb n f4;have y:=c2.hb _ _ g;have stop:∀a:Int,Ok (stE 6 (.ptr (h.next+1) 0) (.agg (Me.nil 0).cells) h2 fun h=>I9 TT [.c (.ptr (h1.next-1) 0) 53,.v (.int .i64 a)] h) fun v h'=>∃x a Y,Bit h h' B X F v x a Y:=fun a=>by
   rw[show h1.next-1=h.next+1 by omega];refine Ok.stW g rfl rfl ?_;rw[Fu (Ae _ _ _) A0l.1 A0l.2 rfl];exact .ret ⟨Me.nil 0,a,Y,rfl,Bkk 0,Hc.Bj6 m c2 ((Ar.refl (S:=fun i=>i=h.next+1) h2).Ak (.inl rfl) y _) (fun i p=>by subst p;omega) (c2.hb.put y _)⟩
  rw[show h1.next-1=h.next+1 by omega]at stop;simp only[I,Ad];by_cases j:e2=34
  ·simp only[j,aB,Aa]
   rw[Az (l:=(Me.nil 0).cells) rfl];exact stop 34
  simp only[j,aA,Aa,Ad];by_cases h0:e2=0
  ·simp only[h0,aD,aA,Aa,Aiu]
   refine Ok.Zl c2.C.core rfl rfl (by show 6<7;decide) ?_;exact go _ _ (c2.trans (c2.C.Bg0 Y.gen Y.ep Y.nx false))
  ·simp only[h0,aG,aB,Aa]
   rw[Az (l:=(Me.nil 0).cells) rfl];exact stop 40
end
end
section
theorem Eb.same(C:Eb h B X F)(sm:Aot h h'):Eb h' B X F:=
 ⟨C.M.same sm,by rw[sm.get];exact C.core,by rw[sm.get];exact C.ar,C.map.frame (sm.get _) (sm.get _) (sm.get _),C.wf,C.out,sm.hb C.hb⟩
theorem Bcb(a b c d:Int){bl:List Nat}(f:bl.length=32):Aaq (D5 [(0,1),(1,1),(2,1),(3,1),(4,1),(5,1),(6,32)]) [(0,I a),(1,I b),(2,I c),(3,I d),(6,.agg (Bc bl))] En.zero.cells=some (⟨a,b,c,d,0,0,bl⟩:En).cells:=by
 have hs:=Aje [I a,I b,I c,I d,I 0,I 0] (Bc C7) (Bc bl) (by rw[Bi,Bi,f,Aay]);rw[<-Ui]at hs;show Bb (Nat.beq (F9 (Bc bl)) 32) (oB (fun z=>some z) (Mf ([I a,I b,I c,I d,I 0,I 0]++Bc C7) 6 (Bc bl))) none=_;rw[Bf,Bi,f,cI,Al];rw[show(6:Nat) = [I a,I b,I c,I d,I 0,I 0].length from rfl,hs];rfl
section
variable (A:Ca disp)(hK:10000<K)(C:Eb h B X F)
include C
theorem Atl(f:x.state=1->Tk x.An/\Tk x.Br)(j:Int):Fe (K8 K (.ptr B.b 0) (I j) (.agg x.cells) h) h B X F:=by
 refine Ok.mono (A9t (K:=K) C.sm C.map C.hb f j) ?_;rintro _ h' ⟨rfl,m,c,a⟩;exact⟨_,_,rfl,C.Bp4 m c a⟩
include A hK
theorem A77(hd:22<=d){U:Nat}(V:h.get U=some (.cells x.cells 53))(r:Tk x.An/\Tk x.Br)(j:Int):
 Fe (Xq (Ag TT disp K d false) (Ag TT disp K d true) K (.ptr B.c 0) (I j) (.ptr U 0) h) h B X F:=by
 have lc:=C.hb _ _ C.core;have l5:=C.hb _ _ V;simp only[Xq,Aa];rw[Ah lc (by kernel_rfl),C.ldM];simp only[Aa,Aw];rw[Ah l5 (by kernel_rfl),Dj V rfl (Am (n:=6) rfl)];simp only[Aa,Aw];refine Ok.Yh (S:=fun j=>¬B.fr F j) (by kernel_rfl) (by kernel_rfl) (fun _=>by kernel_rfl) (Bhp A hK (d:=d) (by omega) C.lift.M C.lift.hb r.1 r.2) (fun _ _ p=>p.2.2.2.1) ?_;rintro _ ah h2 s' ⟨rfl,a,M',_,i⟩ sm ch m;have c2:=C.Iv (M'.same sm) ch (sm.hb i) (Bmx _ x);generalize X.S.read x=P at c2 a⊢;obtain⟨S',bl,er⟩:=P;simp only at c2 a⊢;generalize ({ X with S:=S' }:Co)=Y at c2⊢;have ul:(Bc bl).length=32:=by rw[Bi,a.1]
 simp only[Aa];rw[Kh (by rcases m with rfl|⟨w,rfl,_⟩<;>kernel_rfl)];refine Ok.st (Bc bl) (Ac _ _) rfl (by show F9 (Bc bl)=32;rw[Bf,ul]) (Bm (by rw[bT];exact ul.symm)) ?_;have x3:Ext h2 ((h2.new (.cells (List.replicate 32 (EV.int .u8 0)) 85)).put h2.next (.cells (Bc bl) 85)):=(Ar.new h2 _:Ext _ _).Ak (.inr (aC _)) (aE _) _;have o:((h2.new (.cells (List.replicate 32 (EV.int .u8 0)) 85)).put h2.next (.cells (Bc bl) 85)).get h2.next=some (.cells (Bc bl) 85):=Ae _ _ _
 generalize (h2.new (.cells (List.replicate 32 (EV.int .u8 0)) 85)).put h2.next (.cells (Bc bl) 85)=h3 at x3 o⊢
 have c3:=c2.trans (c2.C.toE x3);simp only[I,Ad];by_cases h0:er=0
 ·simp only[h0,aB,Aa,Af9]
  have t:=c3.hb _ _ c3.C.core;have l7:=c3.hb _ _ o;rw[Ah t (by kernel_rfl),c3.C.ldN];simp only[Aa,Aw];rw[Ah l7 (by kernel_rfl),Dj o rfl (Am ul)];simp only[Aa,Aw];have fe:=Bcb 3 Y.nx 1 j a.1;rw[<-En.Ib]at fe;rw[show(EV.int .i64 3)=I 3 from rfl,show(EV.int .i64 1)=I 1 from rfl,show(EV.int .i64 j)=I j from rfl,Az fe];refine Ok.Yh (S:=fun j=>¬F j) (by kernel_rfl) (by kernel_rfl) (fun _=>by kernel_rfl) (A8u A hK (d:=d) (by omega) (⟨a.1,a.2⟩:(⟨3,Y.nx,1,j,0,0,bl⟩:En).Wf) c3.C.lift) (fun _ _ p=>by obtain⟨_,_,_,p⟩:=p;exact p.c.k) ?_;rintro _ ao h4 s2 ⟨g,e2,Z,p⟩ u D E;have pv:=p.v;subst pv;have c4:Hc h3 h4 B Y F Z:=⟨p.c.C.same u,D,p.c.ck⟩;have c4:=c3.trans c4;simp only[Aa,I];rw[Kh (by rcases E with rfl|⟨w,rfl,_⟩<;>kernel_rfl)];refine Ok.stW (Ac _ _) rfl rfl ?_;have x5:Ext h4 ((h4.new (.cells [EV.int .i64 0,.int .i64 0,.int .i64 0,.int .i64 0,.int .i64 0,.int .i64 0] 53)).put h4.next (.cells g.cells 53)):=(Ar.new h4 _:Ext _ _).Ak (.inr (aC _)) (aE _) _;have G:((h4.new (.cells [EV.int .i64 0,.int .i64 0,.int .i64 0,.int .i64 0,.int .i64 0,.int .i64 0] 53)).put h4.next (.cells g.cells 53)).get h4.next=some (.cells g.cells 53):=Ae _ _ _
  generalize (h4.new (.cells [EV.int .i64 0,.int .i64 0,.int .i64 0,.int .i64 0,.int .i64 0,.int .i64 0] 53)).put h4.next (.cells g.cells 53)=h5 at x5 G⊢
  have c5:=c4.trans (c4.C.toE x5);simp only[Ad];by_cases h0:e2=0
  ·simp only[h0,aD,aA,Aa,Agw]
   have H:=c5.hb _ _ c5.C.core;have l9:=c5.hb _ _ G;rw[Ah H (by kernel_rfl),c5.C.ldB];simp only[Aa,Aw];rw[Ah l9 (by kernel_rfl),Dj G rfl (Am (n:=6) rfl)];simp only[Aa,Aw];refine Ok.Yh (S:=fun j=>¬F j) (by kernel_rfl) (by kernel_rfl) (fun _=>by kernel_rfl) (Atl (K:=K) c5.C.lift (fun _=>p.r) j) (fun _ _ p=>by obtain⟨_,_,_,p⟩:=p;exact p.k) ?_;rintro _ aw h6 s3 ⟨e6,W,rfl,c6⟩ J O _;exact Fe.ret (c5.trans ⟨c6.C.same J,O,c6.ck⟩)
  ·simp only[h0,aG,aB,Aa]
   exact Fe.ret c5
 simp only[h0,aA,Aa,Ad];by_cases f:er=41
 ·simp only[f,aB,Aa]
  rw[c3.C.ldB,Az (l:=(Me.nil 2).cells) rfl];refine Fe.then c3 (Atl (K:=K) c3.C (x:=Me.nil 2) (fun y=>by cases y) j) fun e4 h4 Z c4=>?_
  exact Fe.ret c4
 ·simp only[f,aA,Aa]
  exact Fe.ret c3
theorem Bcm(hd:23<=d)(j:Int):Fe (Ag TT disp K d false 139 [.ptr B.c 0,I j] h) h B X F:=by
 obtain⟨e,rfl⟩:∃k,d=k+1:=⟨d-1,by omega⟩;rw[Arr A (by omega)];simp only[Aoa,Aa];rw[C.ldB];refine Ok.Ap (U0 (K:=K) C.sm C.map C.hb j) ?_;rintro _ h2 ⟨rfl,f⟩;have rg:=A2w C.sm (A76 C.map.ok j);have c2:=C.toE f;simp only[Aa];generalize (Ak4 X.es j).1=x at rg⊢;refine Ok.stW (Ac _ _) rfl rfl ?_;have a:Ext h2 ((h2.new (.cells [EV.int .i64 0,.int .i64 0,.int .i64 0,.int .i64 0,.int .i64 0,.int .i64 0] 53)).put h2.next (.cells x.cells 53)):=(Ar.new h2 _:Ext _ _).Ak (.inr (aC _)) (aE _) _;have e3:((h2.new (.cells [EV.int .i64 0,.int .i64 0,.int .i64 0,.int .i64 0,.int .i64 0,.int .i64 0] 53)).put h2.next (.cells x.cells 53)).get h2.next=some (.cells x.cells 53):=Ae _ _ _
 generalize (h2.new (.cells [EV.int .i64 0,.int .i64 0,.int .i64 0,.int .i64 0,.int .i64 0,.int .i64 0] 53)).put h2.next (.cells x.cells 53)=h3 at a e3⊢
 have c3:=c2.trans (c2.C.toE a);rw[Aj e3 rfl (v:=I x.state) rfl];simp only[I,Ad];by_cases h1:x.state=1
 ·simp only[h1,aD,aA,Aa]
  exact Fe.from c3 (A77 A hK c3.C (d:=e) (by omega) e3 rg j)
 ·simp only[h1,aG,aB,Aa]
  exact Fe.ret c3
end
end
section
theorem Hc.less{G:Nat->Prop}(c:Hc h h' B X G Y)(s:∀i,F i->G i):Hc h h' B X F Y:=⟨c.C.less s,c.k.less s,c.ck⟩
section
variable (A:Ca disp)(hK:10000<K)(C:Eb h B X F)
include A hK
theorem A75(hd:23<=d){s:EV}{L:List Nat}(hL:L.length<=256)(g:0<L.length->F q):∀(f i:Nat) (h1:Ab) (Y:Co),L.length-i<f->i<=L.length->Hc h h1 B X F Y->Ci h1 s q 3 1 L.length (L.map nI) ->
 Fe (Lp (Ag TT disp K d false) (Ag TT disp K d true) K f (.ptr B.c 0) s (I L.length) (I i) h1) h B X F:=by
 intro f;induction f with
 | zero=>intro i h1 Y j;omega
 | succ f m=>
  intro i h1 Y j n c1 row;rw[Lp];simp only[I,Ad];by_cases a:i<L.length
  ·have:decide ((i:Int)<(L.length:Int))=true:=by simp;omega
   simp only[this,Aa,Afi];have ix:=row.ix a .i64;rw[ix,bc,Aj (row.block (by omega)) rfl (v:=I (L[i]:Int)) (by rw[av,aH a];rfl)];refine Ok.Ap (Bcm A hK c1.C hd (L[i]:Int)) ?_;rintro _ h2 ⟨e2,Z,rfl,c2⟩;simp only[I,Ad];by_cases h0:e2=0
   ·have bl:=hL
    simp only[h0,aD,aA,Aa,Afh,Ad];rw[Cn (by omega) (by omega),show((i:Nat):Int)+1=((i+1:Nat):Int) by omega];exact m (i+1) h2 Z (by omega) (by omega) (c1.trans c2) (row.frame fun y=>c2.k.get _ (c1.hb _ _ (row.block y)) fun w=>w (g y))
   ·simp only[h0,aG,aB,Aa]
    exact Fe.ret (c1.trans c2)
  ·have:decide ((i:Int)<(L.length:Int))=false:=by simp;omega
   simp only[this,Aa,Aev];refine Fe.then c1 (Z9 A hK c1.C (d:=d) (by omega)) fun e2 h2 Z c2=>Fe.ret c2
include C
theorem A05(hd:24<=d){z:Int}(j:Tk z):Fe (Ag TT disp K d false 74 [.ptr B.c 0,I z] h) h B X F:=by
 obtain⟨e,rfl⟩:∃k,d=k+1:=⟨d-1,by omega⟩;rw[Ap1 A (by omega)];simp only[All,Aa];refine Ok.Ap (Vp A hK C (d:=e) (by omega) j) ?_;rintro _ h2 ⟨rfl,m⟩;have c2:=C.rd m;cases X.closed z with
 | false=>
  simp only[Aa];exact Fe.ret c2
 | true=>
 simp only[Aa,Aek];refine Ok.Ap (Beb A hK c2.C (d:=e) (by omega) z) ?_;rintro v h3 ⟨f,q,row,lq⟩;have bl:=Bkj z X.es X.es.length;have el:=C.A78;generalize blN z X.es X.es.length=L at row lq bl⊢;rw[row.Hz];have n:Eb h3 B X (fun i=>F i\/(0<L.length/\i=q)):=by
  obtain⟨⟨T,k,t⟩,_⟩:=f;refine(c2.C.kp k).less fun i a=>?_
  rcases a with a|⟨g,rfl⟩
  ·exact .inl a
  ·exact .inr ⟨lq g,(k.chg.hb c2.C.hb) _ _ (row.block g)⟩
 have:=A75 A hK (d:=e) (by omega) (F:=fun i=>F i\/(0<L.length/\i=q)) (s:=v) (q:=q) (L:=L) (by omega) (fun y=>.inr ⟨y,rfl⟩) K 0 h3 X (by omega) (by omega) (Hc.refl n) row;refine Ok.mono this ?_;rintro _ h4 ⟨e4,Y,rfl,c4⟩;have c4:=c4.less (F:=F) fun i=>.inl
 exact⟨e4,Y,rfl,(c2.trans (c2.C.rd f)).trans c4⟩
theorem Azb(a:∀(n:Int) h',Ext h h'->Ok (k (.int .i64 n) h') Q):Ok (Ap (Bw K (.ptr B.m 0) h) fun v h=>Ap (Iu K v h) k) Q:=
 Bd4 hK C.M C.hb fun h' x=>a _ h' x
theorem Bjj {d:Int}:Tk (X.Is (X.S.g.D*X.S.g.Z).toNat):=by
 have b:=X.Axs (X.S.g.D*X.S.g.Z).toNat;have:=C.sm.Wj;exact⟨by omega,by omega⟩
theorem Blb(hd:25<=d):Ok (Ag TT disp K d false 145 [.ptr B.c 0] h) fun v h'=>∃(b:Bool) (e:Int) (Y:Co),v=.tuple [.bool b,I e]/\Hc h h' B X F Y:=by
 obtain⟨e,rfl⟩:∃k,d=k+1:=⟨d-1,by omega⟩;rw[Asc A (by omega)];simp only[Ao9,Aa];refine Ok.Ap (Bl2 A hK C (d:=e) (by omega)) ?_;rintro _ h2 ⟨⟨b,rfl⟩,i⟩;have c2:=C.rd i;cases b with
 | true=>
  simp only[Aa];refine Ok.Ap (Z9 A hK c2.C (d:=e) (by omega)) ?_;rintro _ h3 ⟨e3,Y,rfl,c3⟩;exact .ret ⟨true,e3,Y,rfl,c2.trans c3⟩
 | false=>
  simp only[Aa,Aho];refine Ok.Ap (A03 A hK c2.C (d:=e) (by omega)) ?_;rintro _ h3 ⟨rfl,j⟩;have c3:=c2.trans (c2.C.rd j);have a:=Bjj A hK C (d:=0);generalize X.Is (X.S.g.D*X.S.g.Z).toNat=z at a⊢;simp only[I,Ad];by_cases f:z = -1
  ·simp only[f,aB,Aa]
   exact .ret ⟨false,0,X,rfl,c3⟩
  ·simp only[f,aA,Aa,Ah2]
   refine Ok.Ap (A05 A hK c3.C (d:=e) (by omega) a) ?_;rintro _ h4 ⟨e4,Y,rfl,c4⟩;exact .ret ⟨true,e4,Y,rfl,c3.trans c4⟩
theorem Asd(c1:Hc h h1 B X F Y)(n:Int)(d:Nat):Fe (Q4 (Ag TT disp K d false) (Ag TT disp K d true) K (.ptr B.c 0) (I n) h1) h B X F:=by
 simp only[Q4,Aa];rw[c1.C.ldM];refine Azb A hK c1.C fun p h2 g=>?_
 have c2:=c1.trans (c1.C.toE g);have i:Fj (.tuple []) false=false/\Fj (.tuple []) true=false:=⟨rfl,rfl⟩;simp only[I,Ad];by_cases a:p=0
 ·simp only[a,aB,Aa,Ad]
  by_cases f:0<n
  ·simp only[f,aB,Rq,Aa]
   exact Fe.ret c2
  ·simp only[f,aA,Rq,Aa,Yg]
   exact Fe.ret c2
 ·simp only[a,aA,Aa,Ad,Rq,Yg]
  exact Fe.ret c2
theorem Bec(hd:25<=d)(n:Int){N:Nat}(y:N<=5000):∀(f i:Nat) (h1:Ab) (Y:Co),N-i<f->i<=N->Hc h h1 B X F Y ->
 Fe (Nh (Ag TT disp K d false) (Ag TT disp K d true) K f (.ptr B.c 0) (I n) (I N) (I i) h1) h B X F:=by
 intro f;induction f with
 | zero=>intro i h1 Y j;omega
 | succ f m=>
  intro i h1 Y j D c1;rw[Nh];simp only[I,Ad];by_cases o:i<N
  ·have:decide ((i:Int)<(N:Int))=true:=by simp;omega
   simp only[this,Aa,Ag7];rw[c1.C.ldM];refine Azb A hK c1.C fun p h2 t=>?_
   have c2:=c1.trans (c1.C.toE t);simp only[Ad];by_cases g:n<=p
   ·simp only[g,aB,Aa]
    exact Fe.ret c2
   simp only[g,aA,Aa,Aga];refine Ok.Ap (Blb A hK c2.C hd) ?_;rintro _ h3 ⟨b,e,Z,rfl,c3⟩;have c3:=c2.trans c3;have u:Fj (.tuple []) false=false/\Fj (.tuple []) true=false:=⟨rfl,rfl⟩;simp only[Aa,I,Ad];by_cases a:e=34
   ·simp only[a,aB,Aa]
    exact Fe.ret c3
   simp only[a,aA,Aa,Ahl];cases b with
   | false=>
    simp only[Aa,Ad,Rt];exact Asd A hK C c3 n d
   | true=>
    simp only[Aa,Ad];by_cases h0:e=0
    ·simp only[h0,aD,aA,Aa,Ad,Rt,Ahv]
     rw[Cn (by omega) (by omega),show((i:Nat):Int)+1=((i+1:Nat):Int) by omega];exact m (i+1) h3 Z (by omega) (by omega) c3
    ·simp only[h0,aG,aB,Aa,Ad,Rt]
     exact Asd A hK C c3 n d
  ·have:decide ((i:Int)<(N:Int))=false:=by simp;omega
   simp only[this,Aa];exact Asd A hK C c1 n d
theorem Bb4(hd:26<=d)(n:Int):Fe (Ag TT disp K d false 75 [.ptr B.c 0,I n] h) h B X F:=by
 obtain⟨e,rfl⟩:∃k,d=k+1:=⟨d-1,by omega⟩;rw[Asi A (by omega)];simp only[Aos,Aa,I,Ad];have a:Fj (.tuple []) false=false/\Fj (.tuple []) true=false:=⟨rfl,rfl⟩;by_cases h0:n<0
 ·simp only[h0,aB,Aa,Ad,Pz]
  exact Fe.ret (Hc.refl C)
 simp only[h0,aA,Aa,Ad];rw[C.ldM];refine An0 A C fun h2 f=>?_
 have c2:=C.toE f;simp only[I,Ad];by_cases h1:X.S.g.D*X.S.g.Z<n
 ·simp only[h1,aB,Aa,Ad,Pz]
  exact Fe.ret c2
 simp only[h1,aA,Aa,Ad,Pz,Aew];rw[c2.C.ldM];refine An0 A c2.C fun h3 i=>?_
 have c3:=c2.trans (c2.C.toE i);have bd:=C.sm.Wj;obtain⟨N,j⟩:=bD (show 0<=2*(X.S.g.D*X.S.g.Z) by omega);simp only[I,Ad];rw[Cn (by omega) (by omega),j];exact Bec A hK C (d:=e) (by omega) n (by omega) K 0 h3 X (by omega) (by omega) c3
theorem Ase(hd:27<=d):Fe (Ag TT disp K d false 126 [.ptr B.c 0] h) h B X F:=by
 obtain⟨e,rfl⟩:∃k,d=k+1:=⟨d-1,by omega⟩;rw[Amf A (by omega)];simp only[Ahu,Aa];rw[C.ldM];refine Ok.Ap (Nj (K:=K) C.M C.hb) ?_;rintro _ h2 ⟨rfl,a⟩;rw[Amb C.sm,Au];have c3:=C.toE (a.Di (.cells (gL X.S.g) 23));exact Fe.then c3 (Bb4 A hK c3.C (d:=e) (by omega) _) fun e4 h4 Z c4=>Fe.ret c4
end
end
section
theorem Da.Bi9{m:Nat}{S:Mi}(M:Da h m S F)(c:Ar T h h')(t:∀i,T i->i<h.next->F i):Da h' m S (Bh F h h'):=by
 refine⟨(M.s.frame c.next fun i a=>c.get i a.1 fun y=>a.2 (t i y a.1)).mono (fun i a=>⟨aL a.1 c.next,fun y=>?_⟩) fun i a=>a.1,Bh.lt M.lt c.next,M.wf⟩;rcases y with y|y
 ·exact a.2 y
 ·have:=a.1;omega
theorem Eb.Bi9(C:Eb h B X F)(c:Ar T h h')(t:∀i,T i->i<h.next->F i)(f:HB h'):Eb h' B X (Bh F h h'):=by
 have g:=C.Ai3 c t f;refine⟨(C.M.Bi9 c fun i a j=>.inl (t i a j)).less fun i a=>?_,g.core,g.ar,g.map,C.wf,fun i a=>?_,f⟩
 ·rcases a with(a|a)|a
  ·exact .inl (.inl a)
  ·exact .inr a
  ·exact .inl (.inr a)
 ·rcases a with a|a
  ·exact C.out i a
  ·intro y
   have m:=C.hb _ _ C.core;have n:=C.hb _ _ C.ar;have a3:=C.hb _ _ C.map.map;have a4:=C.hb _ _ C.map.row;have a5:=C.hb _ _ C.map.live;rcases y with y|y|y|y|y<;>omega
structure Wr where
 block:Int
 bytes:List Nat
def Wr.Wf(w:Wr):Prop:=w.bytes.length=32/\∀b∈w.bytes,b<256
def Wr.cells(w:Wr):List EV:=I w.block::Bc w.bytes
theorem Wr.len {w:Wr}(f:w.Wf):w.cells.length=33:=by unfold Wr.cells;rw[bH,Bi,f.1]
structure Au4(h:Ab)(v:EV)(b:Nat)(L:List Wr):Prop where
 row:(v=.Ao/\L = [])\/∃off r op,v=.slice b off L.length r op/\∀j (hj:j<L.length) (k:EV->R),Oc 33 (.ptr b (off+j*33)) h k=k (.agg L[j].cells)
 wf:∀w∈L,w.Wf
theorem Au4.frame{L:List Wr}(r:Au4 h v b L)(e:0<L.length->h'.get b=h.get b):Au4 h' v b L:=by
 refine⟨?_,r.wf⟩;rcases r.row with y|⟨off,a,op,rfl,y⟩
 ·exact .inl y
 ·refine .inr ⟨off,a,op,rfl,fun j hj k=>?_⟩
  have:=y j hj k;show oB _ (Aon (h'.get b) _ 33)=_;rw[e (by omega)];exact this
theorem Au4.Hz{L:List Wr}(r:Au4 h v b L)(k:EV->R):Ev.Hz v k=k (I L.length):=by
 rcases r.row with⟨rfl,rfl⟩|⟨off,a,op,rfl,_⟩<;>rfl
theorem Au4.at{L:List Wr}(r:Au4 h v b L){j:Nat}(hj:j<L.length)(k:EV->R):X8 33 v (.int .i64 (j:Int)) (fun p=>Oc 33 p h k)=k (.agg L[j].cells):=by
 rcases r.row with⟨rfl,rfl⟩|⟨off,a,op,rfl,y⟩
 ·exact absurd hj (cT _)
 ·rw[Mg hj];exact y j hj k
theorem Bow: [EV.int .i64 0]++List.replicate 32 (EV.int .u8 0)=(⟨0,C7⟩:Wr).cells:=by kernel_rfl
theorem Bb5(C:Eb h B X F)(j:Int):Ok (Un K (.ptr B.c 0) (I j) h) fun v h'=>v=.bool (decide (0<=j)&&decide (j<X.S.g.B))/\Ext h h':=by
 simp only[Un,I,Ad,Aa];have a:Fj (.tuple []) false=false/\Fj (.tuple []) true=false:=⟨rfl,rfl⟩;by_cases h0:0<=j
 ·simp only[h0,aB,Aa,Ad]
  rw[C.ldM];refine Ok.Ap (Nj (K:=K) C.M C.hb) ?_;rintro _ h2 ⟨rfl,f⟩;unfold gV;rw[Arv (v:=I X.S.g.B) rfl];simp only[I,Ad,Aa,Zr];exact .ret ⟨by simp,f⟩
 ·simp only[h0,aA,Aa,Ad,Zr]
  exact .ret ⟨rfl,Ar.refl _⟩
section
variable{L:List Wr}(fb:0<L.length->F b)(hL:L.length<=2000000)
include fb hL
theorem Bep:∀(f i:Nat) (h:Ab),L.length-i<f->i<=L.length->Eb h B X F->Au4 h v b L ->
 Ok (Nv K f (.ptr B.c 0) v v (I L.length) (I i) h) fun w h'=>(∃ok:Bool,w=.bool ok/\(ok=true->L.length<=4))/\Ext h h':=by
 intro f;induction f with
 | zero=>intro i h n;omega
 | succ f o=>
  intro i h n D C W;rw[Nv];simp only[I,Ad];by_cases j:i<L.length
  ·have:decide ((i:Int)<(L.length:Int))=true:=by simp;omega
   simp only[this,Aa,Ag5];rw[W.at j];have wf:=W.wf _ (bF j);generalize L[i]=w at wf⊢;have wl:=Wr.len wf
   try simp only[Aa]
   rw[Bow];refine Ok.stW (Ac _ _) rfl wl ?_;have m:Ext h ((h.new (.cells (⟨0,C7⟩:Wr).cells 112)).put h.next (.cells w.cells 112)):=(Ar.new h _:Ext _ _).Ak (.inr (aC _)) (aE _) _;have e3:((h.new (.cells (⟨0,C7⟩:Wr).cells 112)).put h.next (.cells w.cells 112)).get h.next=some (.cells w.cells 112):=Ae _ _ _
   generalize (h.new (.cells (⟨0,C7⟩:Wr).cells 112)).put h.next (.cells w.cells 112)=h3 at m e3⊢
   rw[Aj e3 rfl (v:=I w.block) rfl];refine Ok.Ap (Bb5 (K:=K) (C.toE m).C w.block) ?_;rintro _ h4 ⟨rfl,p⟩;have x:=m.trans p;cases(decide (0<=w.block)&&decide (w.block<X.S.g.B))with
   | false=>
    simp only[Aa];exact .ret ⟨⟨_,rfl,fun y=>by cases y⟩,x⟩
   | true=>
    simp only[Aa,Ahf,Ad];rw[Cn (by omega) (by omega),show((i:Nat):Int)+1=((i+1:Nat):Int) by omega];refine Ok.mono (o (i+1) h4 (by omega) (by omega) (C.toE x).C (W.frame fun y=>x.get _ (C.M.lt _ (.inl (fb y))) id)) ?_;rintro w E ⟨a,t⟩;exact⟨a,x.trans t⟩
  ·have:decide ((i:Int)<(L.length:Int))=false:=by simp;omega
   have u:Fj (.tuple []) false=false/\Fj (.tuple []) true=false:=⟨rfl,rfl⟩;simp only[this,Aa,Ags];rw[W.Hz];simp only[I,Ad];by_cases h1:1<=(L.length:Int)
   ·simp only[h1,aB,Aa,Ad]
    rw[W.Hz];simp only[I,Ad,Ye,Aa];exact .ret ⟨⟨_,rfl,fun y=>by have:=cP y;omega⟩,Ar.refl _⟩
   ·simp only[h1,aA,Aa,Ad,Ye]
    exact .ret ⟨⟨_,rfl,fun y=>by cases y⟩,Ar.refl _⟩
end
structure Bo4(h:Ab)(s:EV)(q:Nat)(xs:List Me):Prop where
 row:Ci h s q 53 6 xs.length (xs.map Me.cells).flatten
 rng:∀x∈xs,Tk x.An/\Tk x.Br
section
variable (A:Ca disp)(hK:10000<K){L:List Wr}(fb:0<L.length->F b)(hL:L.length<=4)
include A hK fb hL
theorem Ayf{s:EV}{xs:List Me}(hx:L.length<=xs.length)(J:0<xs.length->F q):∀(f i:Nat) (h1:Ab) (Y:Co),L.length-i<f->i<=L.length->Hc h h1 B X F Y->Au4 h1 v b L->Bo4 h1 s q xs ->
 Fe (Jl (Ag TT disp K d false) (Ag TT disp K d true) K f (.ptr B.c 0) s v (I L.length) (I i) h1) h B X F:=by
 intro f;induction f with
 | zero=>intro i h1 Y O;omega
 | succ f U=>
  intro i h1 Y O hi c1 W P;rw[Jl];simp only[I,Ad];by_cases m:i<L.length
  ·have:decide ((i:Int)<(L.length:Int))=true:=by simp;omega
   simp only[this,Aa,Aeu];rw[W.at m];have wf:=W.wf _ (bF m);generalize L[i]=w at wf⊢;have wl:=Wr.len wf
   try simp only[Aa]
   rw[Bow];refine Ok.stW (Ac _ _) rfl wl ?_;have n:Ext h1 ((h1.new (.cells (⟨0,C7⟩:Wr).cells 112)).put h1.next (.cells w.cells 112)):=(Ar.new h1 _:Ext _ _).Ak (.inr (aC _)) (aE _) _;have e3:((h1.new (.cells (⟨0,C7⟩:Wr).cells 112)).put h1.next (.cells w.cells 112)).get h1.next=some (.cells w.cells 112):=Ae _ _ _
   generalize (h1.new (.cells (⟨0,C7⟩:Wr).cells 112)).put h1.next (.cells w.cells 112)=h3 at n e3⊢
   have c3:=c1.trans (c1.C.toE n);have lc:=c3.hb _ _ c3.C.core;have V:=c3.hb _ _ e3;have G:0<xs.length:=by omega
   have a:=P.row.frame (h':=h3) fun y=>n.get _ (c1.hb _ _ (P.row.block y)) id
   have lq:=c3.hb _ _ (a.block G);have g:i<xs.length:=by omega
   rw[Ah lc (by kernel_rfl),c3.C.ldB];simp only[Aa,Aw];rw[Ah V (by kernel_rfl),Aj e3 rfl (v:=I w.block) rfl];simp only[Aa,Aw];have ix:=a.ix g .i64;rw[ix,Ah lq (by kernel_rfl),Dj (a.block G) rfl (Axm xs g)];simp only[Aa,Aw];have rg:=P.rng _ (bF g);refine Ok.Yh (S:=fun j=>¬F j) (by kernel_rfl) (by kernel_rfl) (fun _=>by kernel_rfl) (Atl (K:=K) c3.C.lift (fun _=>rg) w.block) (fun _ _ p=>by obtain⟨_,_,_,p⟩:=p;exact p.k) ?_;rintro _ aa u s3 ⟨e6,Z,rfl,H⟩ D E _;have o:Hc h3 u B Y F Z:=⟨H.C.same D,E,H.ck⟩;simp only[Afo,Ad];rw[Cn (by omega) (by omega),show((i:Nat):Int)+1=((i+1:Nat):Int) by omega];have t:∀j,F j->u.get j=h1.get j:=fun j hj=>by
    have l:=c1.C.M.lt _ (.inl hj);rw[o.k.get _ (aL l n.next) fun y=>y hj,n.get _ l id]
   exact U (i+1) u Z (by omega) (by omega) (c3.trans o) (W.frame fun y=>t _ (fb y)) ⟨P.row.frame fun y=>t _ (J y),P.rng⟩
  ·have:decide ((i:Int)<(L.length:Int))=false:=by simp;omega
   simp only[this,Aa,Vf];exact Fe.ret c1
theorem Ax4(hd:22<=d)(t:∀j,F j->j<h.next)(first:Int):∀(f i:Nat) (h1:Ab) (Y:Co) (s:EV) (q:Nat) (xs:List Me),L.length-i<f->i<=L.length->xs.length=i->Hc h h1 B X F Y->Eb h1 B Y (fun j=>F j\/(0<xs.length/\j=q))->(0<xs.length->h.next<=q)->Au4 h1 v b L->Bo4 h1 s q xs ->
 Fe (Iq (Ag TT disp K d false) (Ag TT disp K d true) K f (.ptr B.c 0) v (I first) s v (I L.length) (I i) h1) h B X F:=by
 intro f;induction f with
 | zero=>intro i h1 Y s q xs hf;omega
 | succ f ih=>
  intro i h1 Y s q xs hf hi aw c1 V hq W P;rw[Iq];simp only[I,Ad];have aa:∀j,F j->j<h1.next:=fun j hj=>c1.C.M.lt _ (.inl hj)
  by_cases u:i<L.length
  ·have:decide ((i:Int)<(L.length:Int))=true:=by simp;omega
   simp only[this,Aa,Aeq];rw[W.at u];have wf:=W.wf _ (bF u);generalize L[i]=w at wf⊢;have wl:=Wr.len wf
   try simp only[Aa]
   rw[Bow];refine Ok.stW (Ac _ _) rfl wl ?_;have x3:Ext h1 ((h1.new (.cells (⟨0,C7⟩:Wr).cells 112)).put h1.next (.cells w.cells 112)):=(Ar.new h1 _:Ext _ _).Ak (.inr (aC _)) (aE _) _;have e3:((h1.new (.cells (⟨0,C7⟩:Wr).cells 112)).put h1.next (.cells w.cells 112)).get h1.next=some (.cells w.cells 112):=Ae _ _ _
   generalize (h1.new (.cells (⟨0,C7⟩:Wr).cells 112)).put h1.next (.cells w.cells 112)=h3 at x3 e3⊢
   rw[W.Hz]
   try simp only[Aa]
   rw[Aj e3 rfl (v:=I w.block) rfl]
   try simp only[Aa]
   rw[Dj e3 rfl (show Mh w.cells 1 32=some (Bc w.bytes) by
    rw[Fc (by omega)];unfold Wr.cells;rw[List.drop_succ_cons,dA,bP (by rw[Bi,wf.1];omega)])]
   have fe:=Bcb 1 first L.length w.block wf.1
   rw[<-En.Ib]at fe;rw[show(EV.int .i64 1)=I 1 from rfl,show(EV.int .i64 first)=I first from rfl,Az fe];have C3:=(V.toE x3).C;have p0:=A8u A hK hd (⟨wf.1,wf.2⟩:(⟨1,first,L.length,w.block,0,0,w.bytes⟩:En).Wf) C3;refine Ok.Ap p0 ?_;rintro _ h4 ⟨x,er,Z,⟨rfl,rg,c4⟩⟩;have m:Hc h1 h4 B Y (fun j=>F j\/(0<xs.length/\j=q)) Z:=(V.toE x3).trans c4;have D:Hc h h4 B X F Z:=c1.trans (m.less fun j=>.inl);simp only[Aa];refine Ok.stW (Ac _ _) rfl rfl ?_;have x5:Ext h4 ((h4.new (.cells [EV.int .i64 0,.int .i64 0,.int .i64 0,.int .i64 0,.int .i64 0,.int .i64 0] 53)).put h4.next (.cells x.cells 53)):=(Ar.new h4 _:Ext _ _).Ak (.inr (aC _)) (aE _) _;have e5:((h4.new (.cells [EV.int .i64 0,.int .i64 0,.int .i64 0,.int .i64 0,.int .i64 0,.int .i64 0] 53)).put h4.next (.cells x.cells 53)).get h4.next=some (.cells x.cells 53):=Ae _ _ _
   generalize (h4.new (.cells [EV.int .i64 0,.int .i64 0,.int .i64 0,.int .i64 0,.int .i64 0,.int .i64 0] 53)).put h4.next (.cells x.cells 53)=p at x5 e5⊢
   have g:=D.trans (D.C.toE x5);have o:=m.trans (m.C.toE x5);have E:∀j,(F j\/(0<xs.length/\j=q))->j<h1.next->p.get j=h1.get j:=fun j hj l=>o.k.get _ l fun y=>y hj
   simp only[I,Ad];by_cases h0:er=0
   case neg=>
    simp only[h0,aG,aB,Aa];exact Fe.ret g
   simp only[h0,aD,aA,Aa,Aen];rw[Dj e5 rfl (Am (n:=6) rfl)];have G:=P.row.frame (h':=p) fun y=>E _ (.inr ⟨y,rfl⟩) (c1.hb _ _ (P.row.block y))
   have H:=g.hb;refine N9 (z:=[.int .i64 0,.int .i64 0,.int .i64 0,.int .i64 0,.int .i64 0,.int .i64 0]) (v:=.agg x.cells) G H rfl rfl rfl (by omega) (by omega) fun J O a1 c6=>?_
   have af:=c6.hb H;have C6:=o.C.Bi9 c6 (fun j hj hl=>.inr ⟨hj.1,hj.2⟩) af;have ag:Eb J B Z (fun j=>F j\/(0<(xs++[x]).length/\j=p.next+1)):=C6.less fun j hj=>by
    rcases hj with hj|⟨_,rfl⟩
    ·exact .inl (.inl hj)
    ·exact .inr ⟨by omega,by omega⟩
   have S:Kf F p J:=c6.mono fun j hj y=>by
    have a:=t j y;have b:=hq hj.1;have e:=hj.2;omega
   have ah:Hc h J B X F Z:=g.trans ⟨C6.less fun j hj=>.inl (.inl hj),S,Ck.refl _⟩;have ai:∀j,F j->J.get j=h1.get j:=fun j hj=>by
    have l:=aa j hj;have l5:=aL l o.k.next
    rw[S.get _ l5 (fun y=>y hj)];exact E _ (.inl hj) l
   simp only[Aef,Ad];rw[Cn (by omega) (by omega),show((i:Nat):Int)+1=((i+1:Nat):Int) by omega];have lx:(xs++[x]).length=xs.length+1:=by simp
   have ao:=g.k.next
   have:=ih (i+1) J Z (.slice (p.next+1) 0 (xs.length+1) (xs.length+1) true) (p.next+1) (xs++[x]) (by omega) (by omega) (by omega) ah ag (fun _=>by omega) (W.frame fun y=>ai _ (fb y)) ⟨by rw[lx,cB,cy,show([x].map Me.cells).flatten=(EV.agg x.cells).cells by simp[EV.cells]];exact O,fun z U=>by
    rcases bL.1 U with U|U
    ·exact P.rng z U
    ·rw[aO.1 U];exact rg⟩
   exact this
  ·have:decide ((i:Int)<(L.length:Int))=false:=by simp;omega
   simp only[this,Aa,U3];rw[W.Hz];have w:=Ayf A hK (X:=Y) (F:=fun j=>F j\/(0<xs.length/\j=q)) (v:=v) (b:=b) (L:=L) (fun y=>.inl (fb y)) hL (d:=d) (s:=s) (q:=q) (xs:=xs) (by omega) (fun y=>.inr ⟨y,rfl⟩) K 0 h1 Y (by omega) (by omega) (Hc.refl V) W P;refine Ok.mono w ?_;rintro _ h2 ⟨e2,Z,rfl,c2⟩;exact⟨e2,Z,rfl,c1.trans (c2.less fun j=>.inl)⟩
end
theorem A0n(A:Ca disp)(hK:3000000<K){L:List Wr}(fb:0<L.length->F b)(hL:L.length<=2000000)(hd:28<=d)(C:Eb h B X F)(W:Au4 h v b L):Fe (Ag TT disp K d false 59 [.ptr B.c 0,v] h) h B X F:=by
 obtain⟨e,rfl⟩:∃k,d=k+1:=⟨d-1,by omega⟩;rw[Aqe A (by omega)];simp only[Al3,Wm,Aa];rw[W.Hz];refine Ok.Ap (Bep (K:=K) fb hL K 0 h (by omega) (by omega) C W) ?_;rintro _ h2 ⟨⟨ok,rfl,hok⟩,g⟩;have c2:=C.toE g;cases ok with
 | false=>
  simp only[Aa];exact Fe.ret c2
 | true=>
 have f:=hok rfl;simp only[Aa,Ac6];refine Ok.Ap (Ase A (by omega) c2.C (d:=e) (by omega)) ?_;rintro _ h3 ⟨e3,Y,rfl,c3⟩;have a:=c2.trans c3;simp only[I,Ad];by_cases h0:e3=0
 case neg=>
  simp only[h0,aG,aB,Aa];exact Fe.ret a
 simp only[h0,aD,aA,Aa,Adk];rw[a.C.ldN];have W3:Au4 h3 v b L:=W.frame fun y=>a.k.get _ (C.M.lt _ (.inl (fb y))) fun w=>w (fb y)
 rw[W3.Hz];exact Ax4 A (by omega) (F:=F) (h:=h) fb f (d:=e) (by omega) (fun j hj=>C.M.lt _ (.inl hj)) Y.nx K 0 h3 Y .Ao 0 [] (by omega) (by omega) rfl a (a.C.less fun j hj=>hj.elim id fun y=>absurd y.1 (bS 0)) (fun y=>absurd y (bS 0)) W3 ⟨Ci.nil _ _ _ _,fun x i=>by cases i⟩
end
variable {L:List Wr}
section
theorem Bks(seq block many:Int):Aaq (D5 [(0,1),(1,1),(2,1),(3,1),(4,1),(5,1),(6,32)]) [(0,I 2),(1,I seq),(2,I 1),(3,I block),(4,I many)] En.zero.cells=some (⟨2,seq,1,block,many,0,C7⟩:En).cells:=rfl
theorem Blo:∀b∈C7,b<256:=fun b hb=>by rw[bZ hb];decide
section
variable (A:Ca disp)(hK:10000<K)(C:Eb h B X F)
include A hK
omit A hK in
theorem Bel {block many:Int}(b0:0<=block/\block<=1000)(o:0<=many/\many<=1000):∀(f:Nat) (b:Int) (h1:Ab) (Y:Co),block+many-b<f->block<=b->b<=block+many->Hc h h1 B X F Y ->
 Fe (Na (Ag TT disp K d false) (Ag TT disp K d true) K f (.ptr B.c 0) (I block) (I many) (I b) h1) h B X F:=by
 intro f;induction f with
 | zero=>intro b h1 Y g;omega
 | succ f i=>
  intro b h1 Y g j m c1;rw[Na];simp only[I,Ad];rw[Cn (n:=block+many) (by omega) (by omega)];by_cases a:b<block+many
  ·simp only[a,aB,Aa,Aht]
   rw[c1.C.ldB,Az (l:=(Me.nil 0).cells) rfl];refine Fe.then c1 (Atl (K:=K) c1.C (x:=Me.nil 0) (fun y=>by cases y) b) fun e2 h2 Z c2=>?_
   simp only[Agx,Ad];rw[Cn (by omega) (by omega)];exact i (b+1) h2 Z (by omega) (by omega) (by omega) c2
  ·simp only[a,aA,Aa,Ag9]
   exact Fe.ret c1
include C
theorem A3m(hd:28<=d)(block many:Int):Fe (Ag TT disp K d false 70 [.ptr B.c 0,I block,I many] h) h B X F:=by
 obtain⟨e,rfl⟩:∃k,d=k+1:=⟨d-1,by omega⟩;have:=C.sm.b1;rw[Ary A (by omega)];simp only[Ao4,Aa];refine Ok.Ap (Bb5 (K:=K) C block) ?_;rintro _ h2 ⟨rfl,n⟩;have c2:=C.toE n;have o:Fj (.tuple []) false=false/\Fj (.tuple []) true=false:=⟨rfl,rfl⟩;cases p:(decide (0<=block)&&decide (block<X.S.g.B))with
 | false=>
  simp only[Aa,Ad,Rs,Mt];exact Fe.ret c2
 | true=>
 simp only[bI,bE]at p;simp only[Aa,Ad,I];by_cases h1:many<1
 ·simp only[h1,aB,Aa,Ad,Rs,Mt]
  exact Fe.ret c2
 simp only[h1,aA,Aa,Ad,Rs];rw[c2.C.ldM];refine Ok.Ap (Nj (K:=K) c2.C.M c2.hb) ?_;rintro _ h3 ⟨rfl,t⟩;have c3:=c2.trans (c2.C.toE t);unfold gV;rw[Arv (v:=I X.S.g.B) rfl];simp only[I,Ad];rw[Cn (by omega) (by omega)];by_cases h4:X.S.g.B-block<many
 ·simp only[h4,aB,Aa,Ad,Mt]
  exact Fe.ret c3
 simp only[h4,aA,Aa,Ad,Mt,Ahz];refine Ok.Ap (Ase A hK c3.C (d:=e) (by omega)) ?_;rintro _ D ⟨e5,Y,rfl,c5⟩;have c5:=c3.trans c5;simp only[I,Ad];by_cases h0:e5=0
 case neg=>
  simp only[h0,aG,aB,Aa];exact Fe.ret c5
 simp only[h0,aD,aA,Aa,Age];rw[c5.C.ldN];have i:=Bks Y.nx block many;rw[<-En.Ib]at i;simp only[I]at i⊢;rw[Az i];refine Ok.Ap (A8u A hK (d:=e) (by omega) (⟨Aay,Blo⟩:(⟨2,Y.nx,1,block,many,0,C7⟩:En).Wf) c5.C) ?_;rintro _ a ⟨x,u,Z,⟨rfl,rg,f⟩⟩;have f:=c5.trans f;simp only[Aa];refine Ok.stW (Ac _ _) rfl rfl ?_;have j:Ext a ((a.new (.cells [EV.int .i64 0,.int .i64 0,.int .i64 0,.int .i64 0,.int .i64 0,.int .i64 0] 53)).put a.next (.cells x.cells 53)):=(Ar.new a _:Ext _ _).Ak (.inr (aC _)) (aE _) _;generalize (a.new (.cells [EV.int .i64 0,.int .i64 0,.int .i64 0,.int .i64 0,.int .i64 0,.int .i64 0] 53)).put a.next (.cells x.cells 53)=y at j⊢
 have m:=f.trans (f.C.toE j);simp only[I,Ad];by_cases h0:u=0
 case neg=>
  simp only[h0,aG,aB,Aa];exact Fe.ret m
 simp only[h0,aD,aA,Aa,Af5];exact Bel (K:=K) (d:=e) ⟨by omega,by omega⟩ ⟨by omega,by omega⟩ K block y Z (by omega) (by omega) (by omega) m
theorem Atv(hd:28<=d)(j:Int):Fe (Ag TT disp K d false 71 [.ptr B.c 0,I j] h) h B X F:=by
 obtain⟨e,rfl⟩:∃k,d=k+1:=⟨d-1,by omega⟩;rw[Ard A (by omega)];simp only[Aoh,Aa];rw[C.ldB];refine Ok.Ap (U0 (K:=K) C.sm C.map C.hb j) ?_;rintro _ h2 ⟨rfl,f⟩;have c2:=C.toE f;simp only[Aa];generalize Ak4 X.es j=ge;obtain⟨x,g⟩:=ge;simp only;refine Ok.stW (Ac _ _) rfl rfl ?_;have a:Ext h2 ((h2.new (.cells [EV.int .i64 0,.int .i64 0,.int .i64 0,.int .i64 0,.int .i64 0,.int .i64 0] 53)).put h2.next (.cells x.cells 53)):=(Ar.new h2 _:Ext _ _).Ak (.inr (aC _)) (aE _) _;have e3:((h2.new (.cells [EV.int .i64 0,.int .i64 0,.int .i64 0,.int .i64 0,.int .i64 0,.int .i64 0] 53)).put h2.next (.cells x.cells 53)).get h2.next=some (.cells x.cells 53):=Ae _ _ _
 generalize (h2.new (.cells [EV.int .i64 0,.int .i64 0,.int .i64 0,.int .i64 0,.int .i64 0,.int .i64 0] 53)).put h2.next (.cells x.cells 53)=h3 at a e3⊢
 have c3:=c2.trans (c2.C.toE a);have i:Fj (.tuple []) false=false/\Fj (.tuple []) true=false:=⟨rfl,rfl⟩;simp only[I,Ad];by_cases h0:g=0
 case neg=>
  simp only[h0,aG,aB,Aa,Ad,Re];exact Fe.ret c3
 simp only[h0,aD,aA,Aa,Ad];rw[Aj e3 rfl (v:=I x.state) rfl];simp only[I,Ad];by_cases h1:x.state=1
 case neg=>
  simp only[h1,aG,aB,Aa,Ad,Re];exact Fe.ret c3
 simp only[h1,aD,aA,Aa,Ad,Re,Agh];refine Ok.Ap (Ase A hK c3.C (d:=e) (by omega)) ?_;rintro _ n ⟨e5,Y,rfl,c5⟩;have c5:=c3.trans c5;simp only[I,Ad];by_cases h0:e5=0
 case neg=>
  simp only[h0,aG,aB,Aa];exact Fe.ret c5
 simp only[h0,aD,aA,Aa,Agq];exact Fe.then c5 (Bcm A hK c5.C (d:=e) (by omega) j) fun e6 o Z m=>Fe.ret m
theorem A0f(hd:15<=d):Fe (Ag TT disp K d false 72 [.ptr B.c 0] h) h B X F:=by
 obtain⟨e,rfl⟩:∃k,d=k+1:=⟨d-1,by omega⟩;rw[Aqa A (by omega)];simp only[Alq,Aa];rw[C.ldM];exact Ax8 A hK C (d:=e) (by omega) fun e1 h1 a c1=>Fe.ret c1
theorem A3b(hd:29<=d)(j:Int):Ok (Ag TT disp K d false 47 [.ptr B.c 0,I j] h) fun v h'=>∃(bl:List Nat) (e:Int) (Y:Co),v=.tuple [.agg (Bc bl),I e]/\bl.length=32/\Hc h h' B X F Y:=by
 obtain⟨dd,rfl⟩:∃k,d=k+1:=⟨d-1,by omega⟩;rw[Arc A (by omega)];simp only[Ao3,Aa];rw[Gv];have x1:Ext h (h.new (.cells (Bc C7) 85)):=Ar.new _ _;have g4:(h.new (.cells (Bc C7) 85)).get h.next=some (.cells (Bc C7) 85):=Ac _ _
 have n1:(h.new (.cells (Bc C7) 85)).next=h.next+1:=rfl
 generalize h.new (.cells (Bc C7) 85)=h1 at x1 g4 n1⊢;have E:=C.ext x1;rw[E.ldB];refine Ok.Ap (U0 (K:=K) E.sm E.map E.hb j) ?_;rintro _ h2 ⟨rfl,x2⟩;have rg:=A2w C.sm (A76 C.map.ok j);simp only[Aa];generalize Ak4 X.es j=ge at rg⊢;obtain⟨x,er⟩:=ge;simp only at rg⊢;have ay:=x2.hb E.hb;refine Ok.stW (Ac _ _) rfl rfl ?_;have x3:Ext h2 ((h2.new (.cells [EV.int .i64 0,.int .i64 0,.int .i64 0,.int .i64 0,.int .i64 0,.int .i64 0] 53)).put h2.next (.cells x.cells 53)):=(Ar.new h2 _:Ext _ _).Ak (.inr (aC _)) (aE _) _;have e3:((h2.new (.cells [EV.int .i64 0,.int .i64 0,.int .i64 0,.int .i64 0,.int .i64 0,.int .i64 0] 53)).put h2.next (.cells x.cells 53)).get h2.next=some (.cells x.cells 53):=Ae _ _ _
 generalize (h2.new (.cells [EV.int .i64 0,.int .i64 0,.int .i64 0,.int .i64 0,.int .i64 0,.int .i64 0] 53)).put h2.next (.cells x.cells 53)=h3 at x3 e3⊢
 have G:Ext h h3:=(x1.trans x2).trans x3;have f:=Ext.at (x2.trans x3) E.hb g4;have az:=(x2.trans x3).next
 have a:=C.ext G;have f4:Bh F h h3 h.next:=.inr ⟨aC _,by omega⟩
 have a1:Fj (.tuple []) false=false/\Fj (.tuple []) true=false:=⟨rfl,rfl⟩;have fin:∀(bl:List Nat) (e:Int) (h4:Ab) (Y:Co),bl.length=32->Hc h3 h4 B X (Bh F h h3) Y->h4.get h.next=some (.cells (Bc C7) 85)->Ok (stE 32 (.ptr h.next 0) (.agg (Bc bl)) h4 fun h=>I9 TT [.c (.ptr (h1.next-1) 0) 85,.v (.int .i64 e)] h) fun v h'=>∃(bl:List Nat) (e:Int) (Y:Co),v=.tuple [.agg (Bc bl),I e]/\bl.length=32/\Hc h h' B X F Y:=by
  intro bl e h4 Y hl c4 H;have ul:(Bc bl).length=32:=by rw[Bi,hl]
  have l4:=c4.hb _ _ H;rw[show h1.next-1=h.next by omega];refine Ok.st (Bc bl) H rfl (by show F9 (Bc bl)=32;rw[Bf,ul]) (Bm (by show(Bc C7).length=(Bc bl).length;rw[ul,Bi,Aay])) ?_;rw[Fu (Ae _ _ _) Ap3.1 Ap3.2 ul];exact .ret ⟨bl,e,Y,rfl,hl,Hc.Bj6 G c4 ((Ar.refl (S:=fun i=>i=h.next) h4).Ak (.inl rfl) l4 _) (fun i J=>by subst J;omega) (c4.hb.put l4 _)⟩
 rw[show h1.next-1=h.next by omega]at fin;have z:=fun e h4 Y c g=>fin C7 e h4 Y rfl c g
 have O:∀k:EV->R,Bu (Nc 1) (Bc C7) [] k=k (.agg (Bc C7)):=fun k=>Az rfl
 simp only[I,Ad];by_cases h0:er=0
 case neg=>
  simp only[h0,aG,aB,Aa,Ad,Q6];rw[Gv,O];exact z _ _ X (Hc.refl a) f
 simp only[h0,aD,aA,Aa,Ad];rw[Aj e3 rfl (v:=I x.state) rfl];simp only[I,Ad];by_cases U:x.state=0
 ·simp only[U,aB,Aa,Ad,Q6]
  rw[Gv,O];exact z _ _ X (Hc.refl a) f
 simp only[U,aA,Aa,Ad,Q6];rw[Aj e3 rfl (v:=I x.state) rfl];simp only[I,Ad];by_cases V:x.state=2
 ·simp only[V,aB,Aa,Ad]
  rw[Gv,O];exact z _ _ X (Hc.refl a) f
 simp only[V,aA,Aa,Ad,Agc];have lc:=a.hb _ _ a.core;have l6:=a.hb _ _ e3;rw[Ah lc (by kernel_rfl),a.ldM];simp only[Aa,Aw];rw[Ah l6 (by kernel_rfl),Dj e3 rfl (Am (n:=6) rfl)];simp only[Aa,Aw];refine Ok.Yh (S:=fun j=>¬B.fr (Bh F h h3) j) (by kernel_rfl) (by kernel_rfl) (fun _=>by kernel_rfl) (Ben A hK (d:=dd) (by omega) a.lift.M a.lift.hb rg.1 rg.2) (fun _ _ p=>p.2.2.2.1) ?_;rintro _ a6 h4 s' ⟨rfl,bw,M',_,ag⟩ sm ch ah;have c4:=a.Iv (M'.same sm) ch (sm.hb ag) (Bii _ x);generalize X.S.check x=P at c4 bw⊢;obtain⟨S',bl,n,er⟩:=P;simp only at c4 bw⊢;generalize ({ X with S:=S' }:Co)=Y at c4⊢;have ul:(Bc bl).length=32:=by rw[Bi,bw]
 simp only[Aa];rw[Kh (by rcases ah with rfl|⟨w,rfl,_⟩<;>kernel_rfl)];refine Ok.st (Bc bl) (Ac _ _) rfl (by show F9 (Bc bl)=32;rw[Bf,ul]) (Bm (by rw[bT];exact ul.symm)) ?_;have x5:Ext h4 ((h4.new (.cells (List.replicate 32 (EV.int .u8 0)) 85)).put h4.next (.cells (Bc bl) 85)):=(Ar.new h4 _:Ext _ _).Ak (.inr (aC _)) (aE _) _;have g8:((h4.new (.cells (List.replicate 32 (EV.int .u8 0)) 85)).put h4.next (.cells (Bc bl) 85)).get h4.next=some (.cells (Bc bl) 85):=Ae _ _ _
 have n5:((h4.new (.cells (List.replicate 32 (EV.int .u8 0)) 85)).put h4.next (.cells (Bc bl) 85)).next=h4.next+1:=rfl
 generalize (h4.new (.cells (List.replicate 32 (EV.int .u8 0)) 85)).put h4.next (.cells (Bc bl) 85)=h5 at x5 g8 n5⊢
 have c5:=c4.trans (c4.C.toE x5);have y:=c5.k.at a.hb f f4;simp only[I,Ad];by_cases h0:er=0
 case neg=>
  simp only[h0,aG,aB,Aa];rw[Gv,O];exact z _ _ _ c5 y
 simp only[h0,aD,aA,Aa,Agp,Ad];have o:∀t Z,Hc h3 t B X (Bh F h h3) Z->t.get h.next=some (.cells (Bc C7) 85)->t.get h4.next=some (.cells (Bc bl) 85)->Ok (Xx (Ag TT disp K dd false) (Ag TT disp K dd true) K (.ptr h.next 0) (.ptr h4.next 0) t) fun v h'=>∃(bl:List Nat) (e:Int) (Y:Co),v=.tuple [.agg (Bc bl),I e]/\bl.length=32/\Hc h h' B X F Y:=fun t Z u m D=>by
  simp only[Xx,dr];rw[Dj D rfl (Am ul)];exact fin bl 0 t Z bw u m
 by_cases hn:n<2
 case neg=>
  simp only[hn,aA,Aa,Ad,W6];exact o h5 _ c5 y g8
 simp only[hn,aB,Aa,Ad];have C5:Eb h5 B Y (fun i=>Bh F h h3 i\/i=h4.next):=(c4.C.ext x5).less fun i J=>by
  rcases J with J|rfl
  ·exact .inl J
  ·exact .inr ⟨aC _,by omega⟩
 refine Ok.Ap (Atv A hK C5 (d:=dd) (by omega) j) ?_;rintro _ t ⟨e6,Z,rfl,u⟩;have m:=u.k.at c5.hb y (.inl f4);have D:=u.k.at c5.hb g8 (.inr rfl);have u:=c5.trans (u.less fun i=>.inl);simp only[I,Ad,W6];by_cases W:e6=34
 ·simp only[W,aB,Aa]
  rw[Gv,O];exact z _ _ _ u m
 ·simp only[W,aA,Aa]
  exact o t _ u m D
end
end
theorem A5k(hK:1000<K)(hb:HB h)(m:Nat):Ok (Ao2 K (.ptr m 0) h) fun v h'=>v=.ptr h.next 0/\h'.get h.next=some (.cells (arC m (fun _=>-1) fun _=>-1) 212)/\Ext h h'/\HB h':=by
 obtain⟨j,rfl⟩:∃k,K=k+4:=⟨K-4,by omega⟩;simp only[Ao2,dr];rw[Az (l:=arC m (fun _=>0) fun _=>0) rfl];simp only[Aa];have p:Ext h (h.new (.cells (arC m (fun _=>0) fun _=>0) 212)):=Ar.new _ _;have t:(h.new (.cells (arC m (fun _=>0) fun _=>0) 212)).get h.next=some (.cells (arC m (fun _=>0) fun _=>0) 212):=Ac _ _
 have l1:h.next<(h.new (.cells (arC m (fun _=>0) fun _=>0) 212)).next:=aE _
 generalize h.new (.cells (arC m (fun _=>0) fun _=>0) 212)=h1 at p t l1⊢;have st:∀(i:Nat) (h2:Ab) (c o:Nat->Int) (n:Nat),i<3->h2.get h.next=some (.cells (arC m c o) 212)->Ext h h2->h.next<h2.next->(∀h3,h3.get h.next=some (.cells (arC m (N3 c i (-1)) (N3 o i (-1))) 212)->Ext h h3->h.next<h3.next->Ok (St (j+4) n (.ptr h.next 0) (I (i+1:Nat)) h3) fun v h'=>v=.ptr h.next 0/\h'.get h.next=some (.cells (arC m (fun _=>-1) fun _=>-1) 212)/\Ext h h'/\HB h')->Ok (St (j+4) (n+1) (.ptr h.next 0) (I i) h2) fun v h'=>v=.ptr h.next 0/\h'.get h.next=some (.cells (arC m (fun _=>-1) fun _=>-1) 212)/\Ext h h'/\HB h':=by
  intro i h2 c o n u f g a D;rw[St];simp only[I,Ad];have:decide ((i:Int)<3)=true:=by simp;omega
  simp only[this,Aa,Avp];rw[Az (l:=[I (-1),I (-1)]) rfl]
  try simp only[Aa]
  rw[Z6 u];refine Ok.st _ f rfl rfl (A8v u (-1) (-1)) ?_;simp only[Awb,Ad];rw[Cn (by omega) (by omega),show((i:Nat):Int)+1=((i+1:Nat):Int) by omega];exact D _ (Ae _ _ _) (g.Ak (.inr (aC _)) a _) a
 refine st 0 h1 _ _ _ (by omega) t p l1 fun h2 f g a=>st 1 h2 _ _ _ (by omega) f g a fun h3 E G H=>st 2 h3 _ _ _ (by omega) E G H fun h4 J y M=>?_
 rw[St];simp only[I,Ad];simp only[show decide (((2+1:Nat):Int)<3)=false from rfl,Aa,Awf];exact .ret ⟨rfl,J,y,y.hb hb⟩
theorem A49(z:List EV):∀n,rep z n=(List.replicate n z).flatten
 | 0=>rfl
 | n+1=>by rw[eB,bm,<-A49 z n];rfl
theorem Blx(n:Nat):((List.replicate n (Me.nil 0)).map Me.cells).flatten=rep (List.replicate 6 (.int .i64 0)) n:=by
 rw[A49,fJ];rfl
theorem A0z(z:Int):∀n,V6 (List.replicate n (Me.nil 0)) z=0
 | 0=>rfl
 | n+1=>by
  rw[eB,Zx,A0z z n];unfold Ail;rw[aK (fun y=>by cases y.1)];rfl
theorem Bj0(n m:Nat):((List.range n).map fun(z:Nat)=>I (V6 (List.replicate m (Me.nil 0)) z))=rep [.int .i64 0] n:=by
 rw[Bnk];have:(fun(z:Nat)=>I (V6 (List.replicate m (Me.nil 0)) z))=fun _=>EV.int .i64 0:=by funext z;rw[A0z]
 rw[this,Awu]
theorem A2g {g:Gm}(W:rtB g=true)(hb:HB h):Ok (An2 K (gV g) h) fun v h'=>∃b ml ll,v=.tuple [.ptr b 0,I 0]/\Q0 h' b ml ll g (List.replicate g.B.toNat (Me.nil 0))/\Ext h h'/\HB h'/\h.next<=b/\h.next<=ml/\h.next<=ll:=by
 have s:=Zf W;have:=s.b0;have:=s.b1;have:=s.d0;have:=s.d1;have:=s.z0;have:=s.z1;obtain⟨m0,m1⟩:=N1 (a:=g.D) (b:=g.Z) (A:=8) (B:=64) (by omega) (by omega) (by omega) (by omega);simp only[An2,gV,Aa];have m:Ext h (h.new (.cells (gL g) 23)):=Ar.new _ _;have O:(h.new (.cells (gL g) 23)).get h.next=some (.cells (gL g) 23):=Ac _ _
 have n1:(h.new (.cells (gL g) 23)).next=h.next+1:=rfl
 generalize h.new (.cells (gL g) 23)=h1 at m O n1⊢;have u:=m.hb hb;rw[C8 O rfl,Am (n:=6) rfl]
 try simp only[Aa]
 rw[show EV.agg (gL g)=gV g from rfl];refine(Z7 (K:=K) g h1).Ap ?_;rintro _ h2 ⟨rfl,o⟩;have f:=o.hb u;have J:=o.at u O;have S:=f _ _ J;simp only[W,Aa,Avt];rw[Ah S (by kernel_rfl),C8 J rfl,Am (n:=6) rfl];simp only[Aa,Aw];rw[Ah S (by kernel_rfl),Aj J rfl (v:=I g.B) rfl];simp only[Aa,Aw];have hB:I g.B=I (g.B.toNat:Int):=by rw[fB (by omega)]
 rw[hB,Aux (by omega),Au];have t:Ext h2 (h2.new (.cells (rep (List.replicate 6 (.int .i64 0)) g.B.toNat) 53)):=Ar.new _ _;have g3:(h2.new (.cells (rep (List.replicate 6 (.int .i64 0)) g.B.toNat) 53)).get h2.next=some (.cells (rep (List.replicate 6 (.int .i64 0)) g.B.toNat) 53):=Ac _ _
 have n3:(h2.new (.cells (rep (List.replicate 6 (.int .i64 0)) g.B.toNat) 53)).next=h2.next+1:=rfl
 have e3:([EV.int .i64 0,.int .i64 0,.int .i64 0,.int .i64 0,.int .i64 0,.int .i64 0]:List EV)=List.replicate 6 (.int .i64 0):=rfl;rw[e3];generalize h2.new (.cells (rep (List.replicate 6 (.int .i64 0)) g.B.toNat) 53)=h3 at t g3 n3⊢;have i:=t.hb f;have y:=t.at f J;have l3:=i _ _ y;rw[Ah (show h.next<h2.next from S) (by kernel_rfl),C8 y rfl,Am (n:=6) rfl];simp only[Aa,Aw];rw[show EV.agg (gL g)=gV g from rfl];refine Ok.Bpz (P:=fun v h'=>v=I (g.D*g.Z)/\Ext (K0 16 ⟨0,[(Nat.shiftLeft 1 3,h2.next)],[(Nat.shiftLeft 1 4,h.next),(Nat.shiftLeft 1 2,h.next),(Nat.shiftLeft 1 0,h.next)],[],[]⟩ h3) h') (by kernel_rfl) ?_ (fun _ _ p=>p.2) ?_
 ·rw[Lh s]
  exact .ret ⟨rfl,Ar.new _ _⟩
 ·rintro _ af h4 ⟨rfl,ag⟩ eg en E
  have G:=E.hb i;have U:=E.at i g3;have hN:I (g.D*g.Z)=I ((g.D*g.Z).toNat:Int):=by rw[fB (by omega)]
  try simp only[Aa,Aw]
  rw[hN,Aux (by omega),Au];have H:Ext h4 (h4.new (.cells (rep [.int .i64 0] (g.D*g.Z).toNat) 3)):=Ar.new _ _;have n5:(h4.new (.cells (rep [.int .i64 0] (g.D*g.Z).toNat) 3)).next=h4.next+1:=rfl
  have g5:(h4.new (.cells (rep [.int .i64 0] (g.D*g.Z).toNat) 3)).get h4.next=some (.cells (rep [.int .i64 0] (g.D*g.Z).toNat) 3):=Ac _ _
  generalize h4.new (.cells (rep [.int .i64 0] (g.D*g.Z).toNat) 3)=V at H n5 g5⊢;have j:=H.hb G;rw[Az (l:=gL g++[.slice h2.next 0 g.B.toNat g.B.toNat false,.slice h4.next 0 (g.D*g.Z).toNat (g.D*g.Z).toNat false]) rfl];simp only[Aa,Aw];have M:Ext V (V.new (.cells (gL g++[.slice h2.next 0 g.B.toNat g.B.toNat false,.slice h4.next 0 (g.D*g.Z).toNat (g.D*g.Z).toNat false]) 143)):=Ar.new _ _;refine .ret ⟨V.next,h2.next,h4.next,rfl,⟨Ac _ _,by rw[Blx];exact M.at j (H.at G U),by rw[Bj0];exact M.at j g5,by rw[bT],fun x hx=>by rw[bZ hx];unfold meR;rw[aN (.inl rfl)];exact aP rfl⟩,((((m.trans o).trans t).trans E).trans H).trans M,M.hb j,?_,?_,?_⟩
  ·have:=m.next;have:=o.next;have:=t.next;have:=E.next;have:=H.next;omega
  ·have:=m.next;have:=o.next;omega
  ·have:=m.next;have:=o.next;have:=t.next;have:=E.next;omega
end Go.Ev
