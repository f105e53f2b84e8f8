import Derived.Test.YtadnemjjlacolaaGreatCa
import Derived.Test.YtadnemjjlacolaaGreatVb
set_option linter.all false
namespace Go.Ev
open Go.Proofs
set_option maxRecDepth 100000
variable {h h0:Ab}{K b d i m q ar ml sz:Nat}{e:TypeId}{k:EV->Ab->R}{Q:EV->Ab->Prop}{x y zn:Int}{g:Gm}{L:List Fr}{S S':Mi}{F T:Nat->Prop}{By cur:Nat->Int}{disp:Nat->Option FT}
section
def Avz(h:Ab)(s:EV)(q:Nat)(e:TypeId)(sz len:Nat)(l:List EV):Prop:=
 Cs h s q e sz len l\/(len=1/\s=.slice q 0 1 1 false/\h.get q=some (.cells l e)/\l.length=sz)
theorem Avz.frame {h':Ab}{s:EV}{len:Nat}{l:List EV}(r:Avz h s q e sz len l)(g:0<len->h'.get q=h.get q):Avz h' s q e sz len l:=by
 rcases r with r|⟨a,b,c,d⟩
 ·exact .inl (r.frame g)
 ·exact .inr ⟨a,b,by rw[g (by omega)];exact c,d⟩
theorem Avz.lt{s:EV}{len:Nat}{l:List EV}(r:Avz h s q e sz len l)(hb:HB h)(f:0<len):q<h.next:=by
 rcases r with r|⟨a,b,c,d⟩
 ·exact hb _ _ (r.block f)
 ·exact hb _ _ c
theorem Bgl{s v:EV}{len:Nat}{l z:List EV}(r:Avz h s q e sz len l)(hb:HB h)(hp:v.plain=true)(f:z.length=sz)(a:v.cells.length=sz)(hs:sz<=65536)(o:len<=65535)
 (j:∀h',Cs h' (.slice (h.next+1) 0 (len+1) (len+1) true) (h.next+1) e sz (len+1) (l++v.cells)->h'.next=h.next+2->Av (fun i=>0<len/\i=q) h h'->Ok (k (.slice (h.next+1) 0 (len+1) (len+1) true) h') Q) :
 Ok (An (Cd z e sz 1 [(0,v)] h) fun w h=>An (E0 e sz s w h) k) Q:=by
 rcases r with r|⟨rfl,rfl,g,ll⟩
 ·exact Qe r hb hp f a hs (by omega) j
 ·rw[Afr hp f a hs,As]
  have n:(h.new (.cells v.cells e)).get q=some (.cells l e):=by rw[Az _ (hb _ _ g)];exact g
  have c1:=Ac3 (sz:=sz) (Ad h (.cells v.cells e)) a;have c2:=Ac3 (sz:=sz) n ll;have e1:E0 e sz (.slice q 0 1 1 false) (.slice h.next 0 1 1 false) (h.new (.cells v.cells e))=some (.slice (h.next+1) 0 2 2 true,(h.new (.cells v.cells e)).new (.vec (l++v.cells) e sz)):=by
   unfold E0;simp only[lenOf,Ia,c1,c2,Az1];rfl
  rw[e1,As];refine j _ (.inr ⟨by omega,rfl,Ad _ _,by rw[aH,ll,a];omega⟩) rfl ((Av.new _ _).Ds _)
def Bnk(L:List Fr):Prop:=∀f∈L,f.Wf/\frB f=true
theorem Bd5(a b c d e:EV){x y:List EV}(h:x.length=y.length):O0 ([a,b,c,d,e]++x) 5 y=some ([a,b,c,d,e]++y):=by
 rw[Aqy (by rw[aH,h];exact aE _)];have:([a,b,c,d,e]++x).drop (5+y.length) = []:=dX (by rw[aH,h];exact aE _);rw[this,dK];rfl
theorem Bs1{l:List Nat}(a:l.length=44):Afp (Ed [(0,1),(1,1),(2,1),(3,1),(4,1),(5,44)]) [(0,EV.int .i64 4),(1,I zn),(3,I y),(4,I x),(5,.agg (Bh l))] (List.replicate 5 (EV.int .i64 0)++List.replicate 44 (EV.int .u8 0))=some (Fr.mk 4 zn 0 y x l).cells:=by
 show Bf (Nat.beq (Gk (Bh l)) 44) (oB (fun z=>some z) (O0 ([I 4,I zn,I 0,I y,I x]++List.replicate 44 (.int .u8 0)) 5 (Bh l))) none=_;rw[Bc,Be,a,Bd5 _ _ _ _ _ (by rw[Be,a,bQ])];rfl
theorem Buu {z:Int}{es:List Me}(h:snR x y z es=true):(1<=x/\x<=281474976710655)/\(1<=y/\y<=4294967295)/\1<=z/\z<=281474976710655:=by
 unfold snR at h;simp only[aR,aQ]at h;exact⟨h.1,h.2.1,h.2.2.1.1,h.2.2.1.2⟩
section
variable (H:Bj disp)
theorem Bd6(hK:1000<K){c r:Ah}{ll t f:Nat}{es:List Me}(s:Sm g)(m:W8 h0 b ml ll g es)(o:HB h0){z:Int}(x0:1<=x)(x1:x<=281474976710655)(y0:1<=y)(y1:y<=4294967295)(z0:0<=zn)(z1:zn<=65535)(lt:h0.next<=t)(lf:h0.next<=f)(tf:t≠f):
 ∀(n i:Nat) (h:Ab) (v:EV) (q:Nat) (L:List Fr) (F:Fr),g.parts.toNat-i<n->1<=i->i<=g.parts->Ext h0 h->HB h->h.get t=some (.cells [I x,I y,I z,.ptr b 0] 160)->h.get f=some (.cells F.cells 167)->F.Wf->F.Aj=zn->F.Ap=y->F.seq=x->L.length=i->Bnk L->Avz h v q 167 49 i (L.map Fr.cells).flatten->h0.next<=q->q≠t->q≠f ->
 Ok (X4 c r K n (.ptr t 0) (.ptr f 0) v (I i) h) fun w h'=>∃v q L,w=.tuple [v,I 0]/\Avz h' v q 167 49 L.length (L.map Fr.cells).flatten/\h0.next<=q/\(L.length:Int)=g.parts/\Bnk L/\Ext h0 h'/\HB h':=by
 have:=s.b0;have:=s.b1;have hp:2<=g.parts/\g.parts<=200:=by unfold Gm.parts;omega
 intro n;induction n with
 | zero=>intro i h v q L F hn;omega
 | succ n ih=>
  intro i h v q L F hn i1 hi V hb gt gf w fz fe fs hL hI row lq qt qf;rw[X4];simp only[Aa];rw[Al gt rfl (v:=.ptr b 0) rfl];have mh:=m.frame (V.get _ (o _ _ m.map) id) (V.get _ (o _ _ m.row) id) (V.get _ (o _ _ m.live) id);refine(Amx (K:=K) mh hb).An ?_;rintro _ h2 ⟨rfl,x2,bn⟩;rw[Av7 s,As];have P:Ext h (h2.new (.cells (gL g) 23)):=x2.Ds _;generalize h2.new (.cells (gL g) 23)=h3 at P⊢;have u:=P.hb hb;have W:=P.at hb gt;have ao:=P.at hb gf;have E:=row.frame (h':=h3) fun y=>P.get _ (row.lt hb y) id
  simp only[I,Ac];by_cases aa:(i:Int)<g.parts
  ·simp only[aa,aB,Aa,Atz]
   rw[Db W rfl,Ai (n:=4) rfl];simp only[Aa];have G:Ext h0 h3:=V.trans P;refine(Ba7 hK s (m.frame (G.get _ (o _ _ m.map) id) (G.get _ (o _ _ m.row) id) (G.get _ (o _ _ m.live) id)) u (by omega) (by omega)).An ?_;rintro _ h4 ⟨⟨l,rfl,hl,hu⟩,x4,au⟩;have ab:=x4.at u ao;have l4:=au _ _ ab;have ax:Ext h0 h4:=G.trans x4;have ad:=E.frame (h':=h4) fun y=>x4.get _ (E.lt u y) id
   have ay:=x4.at u W;refine Ok.st1 ab rfl rfl (by rw[Fr.Br w];decide) ?_;refine Ok.st1 (Af _ _ _) rfl rfl (by rw[bK,Fr.Br w];decide) ?_;have e5:((F.cells.set 0 (.int .i64 5)).set 2 (.int .i64 (i:Int))) = [I 5,I F.Aj,I i,I F.Ap,I F.seq]++Bh F.body:=rfl;rw[e5];refine Ok.st ([I 5,I F.Aj,I i,I F.Ap,I F.seq]++Bh l) (Af _ _ _) rfl (by show Gk (Bh l)=44;rw[Bc,Be,hl]) (Bd5 (y:=Bh l) _ _ _ _ _ (by rw[Be,Be,w.len,hl])) ?_;have x5:Ext h0 (((h4.put f (.cells (F.cells.set 0 (.int .i64 5)) 167)).put f (.cells ([I 5,I F.Aj,I i,I F.Ap,I F.seq]++Bh F.body) 167)).put f (.cells ([I 5,I F.Aj,I i,I F.Ap,I F.seq]++Bh l) 167)):=((ax.Ar (.inr lf) l4 _).Ar (.inr lf) l4 _).Ar (.inr lf) l4 _;have J:(((h4.put f (.cells (F.cells.set 0 (.int .i64 5)) 167)).put f (.cells ([I 5,I F.Aj,I i,I F.Ap,I F.seq]++Bh F.body) 167)).put f (.cells ([I 5,I F.Aj,I i,I F.Ap,I F.seq]++Bh l) 167)).get f=some (.cells (Fr.mk 5 F.Aj i F.Ap F.seq l).cells 167):=Af _ _ _;have U:(((h4.put f (.cells (F.cells.set 0 (.int .i64 5)) 167)).put f (.cells ([I 5,I F.Aj,I i,I F.Ap,I F.seq]++Bh F.body) 167)).put f (.cells ([I 5,I F.Aj,I i,I F.Ap,I F.seq]++Bh l) 167)).get t=some (.cells [I x,I y,I z,.ptr b 0] 160):=by
    rw[Ag _ (cV tf),Ag _ (cV tf),Ag _ (cV tf)];exact ay
   have O:=ad.frame (h':=(((h4.put f (.cells (F.cells.set 0 (.int .i64 5)) 167)).put f (.cells ([I 5,I F.Aj,I i,I F.Ap,I F.seq]++Bh F.body) 167)).put f (.cells ([I 5,I F.Aj,I i,I F.Ap,I F.seq]++Bh l) 167))) fun y=>by
    rw[Ag _ (cV qf),Ag _ (cV qf),Ag _ (cV qf)]
   generalize (((h4.put f (.cells (F.cells.set 0 (.int .i64 5)) 167)).put f (.cells ([I 5,I F.Aj,I i,I F.Ap,I F.seq]++Bh F.body) 167)).put f (.cells ([I 5,I F.Aj,I i,I F.Ap,I F.seq]++Bh l) 167))=h5 at x5 J U O⊢;have p:=x5.hb o;have w5:(Fr.mk 5 F.Aj i F.Ap F.seq l).Wf:=⟨hl,hu⟩;rw[Bp J rfl (Ai (Fr.Br w5))];refine Bgl O p rfl rfl (Fr.Br w5) (by omega) (by omega) ?_;intro h6 ae n6 c6;simp only[Ate,I,Ac];rw[Cj,show((i:Nat):Int)+1=((i+1:Nat):Int) by omega];have t5:=p _ _ U;have f5:=p _ _ J;refine ih (i+1) h6 _ (h5.next+1) (L++[Fr.mk 5 F.Aj i F.Ap F.seq l]) _ (by omega) (by omega) (by omega) (x5.then c6 fun j hj a=>by omega) (c6.hb p) (c6.at p U fun y=>qt y.2.symm) (c6.at p J fun y=>qf y.2.symm) w5 fz fe fs (by rw[aH,hL];rfl) ?_ ?_ (by have:=x5.next;omega) (by omega) (by omega)
   ·intro fr az
    rcases bO.1 az with y|y
    ·exact hI fr y
    ·rw[aO]at y
     subst y;refine⟨w5,?_⟩;simp only[frB,wi,aR,aQ,fz,fe,fs];omega
   ·rw[cX,dZ,show([Fr.mk 5 F.Aj i F.Ap F.seq l].map Fr.cells).flatten=(Fr.mk 5 F.Aj i F.Ap F.seq l).cells from dK _];exact .inl ae
  ·simp only[aa,aA,Aa,Atb]
   exact .ret ⟨v,q,L,rfl,by rw[hL];exact E,lq,by rw[hL];omega,hI,V.trans P,u⟩
include H
theorem Blw(hd:7<=d)(hK:1000<K){ll:Nat}{es:List Me}(hr:rtB g=true)(m:W8 h b ml ll g es)(hb:HB h){z:Int}(hR:snR x y z es=true)(n0:0<=zn)(n1:zn<g.D*g.Z):
 Ok (Ae TT disp K d false 212 [.agg [I x,I y,I z,.ptr b 0],I zn] h) fun w h'=>∃v q L,w=.tuple [v,I 0]/\Avz h' v q 167 49 L.length (L.map Fr.cells).flatten/\h.next<=q/\(L.length:Int)=g.parts/\Bnk L/\Ext h h'/\HB h':=by
 have s:=Nw hr;obtain⟨⟨x0,x1⟩,⟨y0,y1⟩,z0,z1⟩:=Buu hR;have:=s.b0;have:=s.b1;have:=s.s0;have:=s.d0;have:=s.d1;have:=s.z0;have:=s.z1;obtain⟨m0,m1⟩:=Va (a:=g.D) (b:=g.Z) (A:=8) (B:=64) (by omega) (by omega) (by omega) (by omega);obtain⟨e,rfl⟩:∃k,d=k+1:=⟨d-1,by omega⟩;rw[A24 H (by omega)];simp only[A1u,Aa];obtain⟨h1,e_,w1,g1,a0⟩:=nW h (.cells [I x,I y,I z,.ptr b 0] 160);rw[e_];have o:=w1.hb hb;have t:=m.frame (w1.get _ (hb _ _ m.map) id) (w1.get _ (hb _ _ m.row) id) (w1.get _ (hb _ _ m.live) id);rw[Db g1 rfl,Ai (n:=4) rfl];simp only[Aa];refine(Awp (K:=K) H (d:=e) (by omega) hK s t o x y z).An ?_;rw[hR];rintro _ h2 ⟨rfl,O,u⟩;have g2:=O.at o g1;simp only[Aa,Ac];rw[Al g2 rfl (v:=.ptr b 0) rfl];have m2:=t.frame (O.get _ (o _ _ t.map) id) (O.get _ (o _ _ t.row) id) (O.get _ (o _ _ t.live) id);refine(Amx (K:=K) m2 u).An ?_;rintro _ h3 ⟨rfl,x3,V⟩;refine(An3 (K:=K) (g:=g) V zn 0).An ?_;rintro _ h4 ⟨rfl,x4⟩;have hh:Xo g zn 0=true:=by
  simp only[Xo,hr,wi,bF,aR,aQ];omega
 rw[hh];have E:=x4.hb V;simp only[Aa,Aub,Auo];have j:Ext h2 h4:=x3.trans x4;have g4:=j.at u g2;have l4:=E _ _ g4;have m4:=m2.frame (j.get _ (u _ _ m2.map) id) (j.get _ (u _ _ m2.row) id) (j.get _ (u _ _ m2.live) id);rw[Ku l4,Al g4 rfl (v:=I y) rfl]
 try simp only[Aa,Aw]
 rw[Ku l4,Al g4 rfl (v:=I x) rfl]
 try simp only[Aa,Aw]
 rw[Ku l4,Db g4 rfl,Ai (n:=4) rfl]
 try simp only[Aa,Aw]
 refine Ok.bE (P:=fun v h'=>Aw1 v/\Ext h4.lift h') ((A9r hK s (m4.frame (Ci _ _) (Ci _ _) (Ci _ _)) (D4 E) (by omega) (by omega)).mono fun _ _ a=>⟨a.1,a.2.1⟩) (fun _ _ p=>p.2) ?_;rintro _ a6 h5 ⟨⟨l,rfl,hl,hu⟩,_⟩ _ x5;have G:=x5.hb E;have g5:=x5.at E g4;have w5:(Fr.mk 4 zn 0 y x l).Wf:=⟨hl,hu⟩;rw[Ay (l:=(Fr.mk 4 zn 0 y x l).cells) ?_]
 ·simp only[Aa,Aw]
  rw[Lf];refine Ok.stW (xs:=(Fr.mk 4 zn 0 y x l).cells) (Ad _ _) (by simp) (Fr.Br w5) ?_;obtain⟨U,e_,x6,g6,n6⟩:=nP h5 (.cells (List.replicate 5 (EV.int .i64 0)++List.replicate 44 (.int .u8 0)) 167) (.cells (Fr.mk 4 zn 0 y x l).cells 167);rw[e_];have J:=x6.hb G;rw[Db g6 rfl,Ai (Fr.Br w5)];simp only[Aa];rw[Afr (v:=.agg (Fr.mk 4 zn 0 y x l).cells) rfl (by simp) (Fr.Br w5) (by omega),As];have x7:Ext U (U.new (.cells (Fr.mk 4 zn 0 y x l).cells 167)):=Av.new _ _;have ag:Ext h U:=(((w1.trans O).trans j).trans x5).trans x6;have ah:Ext h (U.new (.cells (Fr.mk 4 zn 0 y x l).cells 167)):=ag.trans x7;have k1:=(w1.trans O).next
  have k2:=j.next
  have k3:=x5.next
  have lg:=G _ _ g5;refine Bd6 hK s m hb x0 x1 y0 y1 n0 (by omega) (aE _) (f:=h5.next) (by omega) (by omega) K 1 _ (.slice U.next 0 1 1 false) U.next [Fr.mk 4 zn 0 y x l] (Fr.mk 4 zn 0 y x l) (by unfold Gm.parts;omega) (aE _) (by unfold Gm.parts;omega) ah (x7.hb J) (x7.at J (x6.at G g5)) (x7.at J g6) w5 rfl rfl rfl rfl ?_ (.inr ⟨rfl,rfl,?_,?_⟩) (by omega) (by omega) (by omega)
  ·intro fr W
   rw[aO]at W;subst W;refine⟨w5,?_⟩;simp only[frB,wi,aR,aQ];omega
  ·rw[show([Fr.mk 4 zn 0 y x l].map Fr.cells).flatten=(Fr.mk 4 zn 0 y x l).cells from dK _];exact Ad _ _
  ·rw[show([Fr.mk 4 zn 0 y x l].map Fr.cells).flatten=(Fr.mk 4 zn 0 y x l).cells from dK _];exact Fr.Br w5
 ·exact Bs1 hl
end
end
section
def Bio(X:List (List EV)):Prop:=∀x∈X,x.length=64/\U8 x
theorem Avz.ix{s:EV}{len:Nat}{l:List EV}(r:Avz h s q e sz len l){j:Nat}(hj:j<len)(k:EV->R):Z8 sz s (I j) k=k (.ptr q (j*sz)):=by
 rcases r with r|⟨rfl,rfl,c,d⟩
 ·exact r.ix hj .i64 k
 ·unfold I;rw[Lv hj,bJ]
theorem Avz.ldN{s:EV}{len n:Nat}{l x:List EV}(r:Avz h s q e sz len l)(f:0<len){o:Nat}(a:Oy l o n=some x)(k:EV->R):Oz n (.ptr q o) h k=k (.agg x):=by
 rcases r with r|⟨rfl,rfl,c,d⟩
 ·exact Bp (r.block f) rfl a
 ·exact Bp c rfl a
theorem Avz.F3{s:EV}{len:Nat}{l:List EV}(r:Avz h s q e sz len l)(k:EV->R):Ev.F3 s k=k (I len):=by
 rcases r with r|⟨rfl,rfl,c,d⟩
 ·exact r.F3 k
 ·rfl
theorem Bvc(j:Bnk L){f:Fr}(a:L[i]? = some f):Oy (L.map Fr.cells).flatten (i*49) 49=some f.cells:=
 A49 (n:=49) _ _ _ (fun x o=>by obtain⟨f,a,rfl⟩:=bc.1 o;exact Fr.Br (j f a).1) (by rw[bG,a];rfl)
theorem A9p(hK:10000<K){c r:Ah}{v3 O:Nat}{fv:EV}(P:Bnk L)(hL:L.length<=200)(l3:h0.next<=v3)(lq:h0.next<=O):
 ∀(n i:Nat) (h:Ab) (v:EV) (q:Nat) (X:List (List EV)),L.length-i<n->i<=L.length->Ext h0 h->HB h0->HB h->h.get v3=some (.cells Bn 96)->Avz h fv O 167 49 L.length (L.map Fr.cells).flatten->X.length=i->Bio X->Cs h v q 30 64 i X.flatten->(0<i->h0.next<=q/\q≠O/\q≠v3) ->
 Ok (Uq c r K n (.ptr v3 0) v fv (I L.length) (I i) h) fun w h'=>∃v q X,w=.tuple [v,I 0]/\Cs h' v q 30 64 X.length X.flatten/\(0<X.length->h0.next<=q)/\X.length=L.length/\Bio X/\Ext h0 h'/\HB h':=by
 intro n;induction n with
 | zero=>intro i h v q X hn;omega
 | succ n ih=>
  intro i h v q X hn hi U V hb W rf hX hS row J;rw[Uq];simp only[I,Ac];by_cases o:i<L.length
  ·have:decide ((i:Int)<(L.length:Int))=true:=by simp;omega
   simp only[this,Aa,Ari];have w:(L[i]).Wf:=(P _ (av o)).1;have fr:=(P _ (av o)).2;have e1:=Bvc P (aC o);have ix:=rf.ix o;simp only[I]at ix;rw[ix,rf.ldN (by omega) e1];generalize L[i]=f at w fr e1⊢
   try simp only[Aa]
   refine Ok.mk (by simp) (Fr.Br w) fun h2 x2 g2 _=>?_
   have t:=x2.hb hb;rw[Db (x2.at hb W) rfl,Ai (n:=256) Wx];simp only[Aa];rw[Bp g2 rfl (Ai (Fr.Br w))];refine(Arp w fr t hK).An ?_;rintro _ h3 ⟨rfl,x3⟩;have ad:=x3.hb t;simp only[Aa];refine Ok.mk (by simp) (by rw[Be,Atw w]) fun h4 x4 g4 _=>?_
   have u:=x4.hb ad;have p:Ext h h4:=(x2.trans x3).trans x4;have el:(Bh (Vc f)).length=64:=by rw[Be,Atw w]
   simp only[I,Ac,aD,aA,Aa,Aq6];rw[Bp g4 rfl (Ai el)];have E:=row.frame (h':=h4) fun y=>p.get _ (hb _ _ (row.block y)) id
   refine Qe E u rfl (by simp) el (by omega) (by omega) ?_;intro h5 G n5 c5;simp only[Arh,Ac];rw[Cj,show((i:Nat):Int)+1=((i+1:Nat):Int) by omega];have lv:=hb _ _ W;have ae:=rf.lt hb (by omega);have nx:=p.next
   have c:Av (fun j=>0<i/\j=q) h h5:=(Ext.to p).trans c5;refine ih (i+1) h5 _ (h4.next+1) (X++[Bh (Vc f)]) (by omega) (by omega) (U.then c fun j hj a=>?_) V (c5.hb u) (c.at hb W fun y=>(J y.1).2.2 y.2.symm) (rf.frame fun _=>c.get _ ae fun y=>(J y.1).2.1 y.2.symm) (by rw[aH,hX];rfl) ?_ ?_ (fun _=>⟨by have:=U.next;omega,by omega,by omega⟩)
   ·have:=(J hj.1).1
    have:=hj.2;omega
   ·intro x hx
    rcases bO.1 hx with y|y
    ·exact hS x y
    ·rw[aO]at y
     subst y;exact⟨el,_,Bja w,rfl⟩
   ·rw[dZ,show([Bh (Vc f)]).flatten=Bh (Vc f)from dK _];exact G
  ·have:i=L.length:=by omega
   subst this;have:decide ((L.length:Int)<(L.length:Int))=false:=by simp
   simp only[this,Aa,Aq2];exact .ret ⟨v,q,X,rfl,by rw[hX];exact row,fun y=>(J (by omega)).1,hX,hS,U,hb⟩
section
variable (H:Bj disp)
include H
theorem Bfk(hd:8<=d)(hK:10000<K){ll:Nat}{es:List Me}(hr:rtB g=true)(m:W8 h b ml ll g es)(hb:HB h){z:Int}(hR:snR x y z es=true)(n0:0<=zn)(n1:zn<g.D*g.Z):
 Ok (Ae TT disp K d false 184 [Abr,.agg [I x,I y,I z,.ptr b 0],I zn] h) fun w h'=>∃v q X,w=.tuple [v,I 0]/\Cs h' v q 30 64 X.length X.flatten/\(0<X.length->h.next<=q)/\(X.length:Int)=g.parts/\Bio X/\Ext h h'/\HB h':=by
 have s:=Nw hr;have:=s.b0;have:=s.b1;obtain⟨e,rfl⟩:∃k,d=k+1:=⟨d-1,by omega⟩;rw[A0f H (by omega)];simp only[Azv,Abr,Aa];have w1:Ext h ((h.new (.cells Bn 96)).new (.cells [I x,I y,I z,.ptr b 0] 160)):=(Av.new _ _).Ds _;have c1:((h.new (.cells Bn 96)).new (.cells [I x,I y,I z,.ptr b 0] 160)).get h.next=some (.cells Bn 96):=by rw[Az _ (aL _)];exact Ad _ _
 have E:((h.new (.cells Bn 96)).new (.cells [I x,I y,I z,.ptr b 0] 160)).get (h.next+1)=some (.cells [I x,I y,I z,.ptr b 0] 160):=Ad _ _;have j:((h.new (.cells Bn 96)).new (.cells [I x,I y,I z,.ptr b 0] 160)).next=h.next+2:=rfl
 rw[show(h.new (.cells Bn 96)).next=h.next+1 from rfl];generalize (h.new (.cells Bn 96)).new (.cells [I x,I y,I z,.ptr b 0] 160)=h1 at w1 c1 E j⊢;have a:=w1.hb hb;rw[Db E rfl,Ai (n:=4) rfl];simp only[Aa];refine(Blw (K:=K) H (d:=e) (by omega) (by omega) hr (m.frame (w1.get _ (hb _ _ m.map) id) (w1.get _ (hb _ _ m.row) id) (w1.get _ (hb _ _ m.live) id)) a hR n0 n1).An ?_;rintro _ h2 ⟨v,q,L,rfl,row,lq,J,O,G,o⟩;simp only[Aa,I,Ac,aD,aA,Ard];rw[row.F3];have hp:g.parts<=200:=by unfold Gm.parts;omega
 have p:Ext h h2:=w1.trans G;refine(A9p hK O (by omega) (aE h.next) (by have:=w1.next;omega) K 0 h2 _ 0 [] (by omega) (by omega) p hb o (G.at a c1) row rfl (fun x P=>by cases P) (Cs.nil _ _ _ _) (fun y=>absurd y (bS _))).mono ?_;rintro _ h3 ⟨U,q',X,rfl,f,t,V,hS,W,u⟩;exact⟨U,q',X,rfl,f,t,by rw[V];exact J,hS,W,u⟩
end
end
structure Dk(S T:Lk):Prop where
 n:T.dv.n=S.dv.n
 size:T.dv.size=S.dv.size
 op:T.dv.op=S.dv.op
 ev:T.ev.length+T.Tw.length=S.ev.length+S.Tw.length
theorem Dk.refl(S:Lk):Dk S S:=⟨rfl,rfl,rfl,rfl⟩
theorem Dk.trans {S T U:Lk}(a:Dk S T)(b:Dk T U):Dk S U:=⟨b.n.trans a.n,b.size.trans a.size,b.op.trans a.op,b.ev.trans a.ev⟩
def Vk(D E:Dv):Prop:=E.n=D.n/\E.size=D.size/\E.op=D.op
theorem Bso(D:Dv)(i:Int)(st:Nat):Vk D (D.fail i st):=by
 unfold Dv.fail;split<;>exact⟨rfl,rfl,rfl⟩
theorem Bpe(D:Dv)(z off:Int)(p:List EV):Vk D (D.A1g z off p):=by
 unfold Dv.A1g;split<;>exact⟨rfl,rfl,rfl⟩
theorem Bla(D:Dv)(e:Evt):Vk D (D.Xy e):=by
 unfold Dv.Xy
 repeat' split
 all_goals first|exact Bpe _ _ _ _|exact Bso _ _ _|exact⟨rfl,rfl,rfl⟩
theorem Bif:∀(ev:List Evt) (D:Dv) (Tw:List Evt),Dk ⟨D,ev,Tw⟩ (A2w ev D Tw)
 | [],D,Tw=>by unfold A2w;exact⟨rfl,rfl,rfl,rfl⟩
 | e::r,D,Tw=>by
  unfold A2w;split
  ·exact⟨rfl,rfl,rfl,rfl⟩
  ·have f:=Bif r (D.Xy e) (Tw++[e])
   obtain⟨a,b,c⟩:=Bla D e;refine⟨f.n.trans a,f.size.trans b,f.op.trans c,f.ev.trans ?_⟩;show r.length+(Tw++[e]).length=(e::r).length+Tw.length;simp only[aH,bH,fM];omega
theorem Bmx(S:Lk):Dk S S.due:=Bif S.ev S.dv S.Tw
theorem Aut(S:Lk)(i:Int):Dk S (S.begin i):=by
 unfold Lk.begin;split
 ·exact Bmx S
 ·exact Dk.refl S
theorem Bei {S:Lk}{D:Dv}(v:Vk S.dv D):Dk S { S with dv:=D }:=⟨v.1,v.2.1,v.2.2,rfl⟩
theorem Blj(D:Dv)(i:Int)(x:List EV):Vk D (D.append i x).1:=by
 unfold Dv.append
 repeat' split
 all_goals exact⟨rfl,rfl,rfl⟩
theorem Bni(D:Dv)(i:Int):Vk D (D.reset i).1:=by
 unfold Dv.reset
 repeat' split
 all_goals exact⟨rfl,rfl,rfl⟩
theorem Bmq(D:Dv)(i:Int):Vk D (D.finish i).1:=by
 unfold Dv.finish
 repeat' split
 all_goals exact⟨rfl,rfl,rfl⟩
theorem Bpk(D:Dv):Vk D D.flush.1:=by
 unfold Dv.flush;split<;>exact⟨rfl,rfl,rfl⟩
theorem Bll(S:Lk)(i:Int)(x:List EV):Dk S (S.append i x).1:=(Aut S i).trans (Bei (S:=S.begin i) (Blj _ i x))
theorem Bn3(S:Lk)(i:Int):Dk S (S.reset i).1:=(Aut S i).trans (Bei (S:=S.begin i) (Bni _ i))
theorem Blc(S:Lk)(i:Int):Dk S (S.finish i).1:=(Aut S i).trans (Bei (S:=S.begin i) (Bmq _ i))
theorem A0c(S:Lk):Dk S S.flush.1:=(Bmx S).trans (Bei (S:=S.due) (Bpk _))
structure Bva(disp:Nat->Option FT)(K:Nat)(h:Ab)(m:Nat)(S:Mi)(F:Nat->Prop)(D V:Nat):Prop where
 Eb:∀k:EV->Ab->R,An (Cp K (.ptr m 0) h) k=k (.ptr D 0) h
 Bus:Cp K (.ptr m 0) h.lift=some (.ptr D 0,h.lift)
 table:Ok (Nh K (.ptr m 0) h.lift) fun v h'=>v=Abr/\Ext h.lift h'
 device:∀k:EV->Ab->R,An (Fo K (.ptr D 0) h) k=k (.ptr V 0) h
 state:∀(i:Int) (k:EV->Ab->R),An (L7 K (.ptr V 0) (I i) h) k=k (I (if S.dr.dv.has i=true then(S.dr.dv.zs i.toNat).st else 4)) h
 reset:∀{d:Nat},14<=d->∀i:Int,0<(S.dr.begin i).dv.size->Ok (Ae TT disp K d false 133 [.ptr D 0,I i] h) fun v h'=>v=I (S.dr.reset i).2/\Dd h' m { S with dr:=(S.dr.reset i).1 } F/\Kf F h h'/\HB h'
 finish:∀{d:Nat},14<=d->∀i:Int,Ok (Ae TT disp K d false 189 [.ptr D 0,I i] h) fun v h'=>v=I (S.dr.finish i).2/\Dd h' m { S with dr:=(S.dr.finish i).1 } F/\Kf F h h'/\HB h'
 flush:∀{d:Nat},14<=d->Ok (Ae TT disp K d false 98 [.ptr D 0] h) fun v h'=>v=I S.dr.flush.2/\Dd h' m { S with dr:=S.dr.flush.1 } F/\Kf F h h'/\HB h'
 append:∀{d:Nat},14<=d->∀(z:Int) {x:List EV},x.length=64->U8 x->∀{i b:Nat} {s:DX} {k:EV->Ab->DX->R} {Q:EV->Ab->Prop},Aj0 b s=true->loose b s.nw = []->(∀w,Ac9 b w s.C8=true) ->
  (∀h' s',Dd h' m { S with dr:=(S.dr.append z x).1 } F->Kf F h h'->HB h'->Ok (k (.tuple [I (S.dr.append z x).2.1,I (S.dr.append z x).2.2]) h' s') Q)->Ok (Ev.L5 i b s h (fun h=>Ae TT disp K d false 187 [.ptr D 0,I z,.agg x] h) k) Q
theorem Alv(A:Bj disp)(hK:10000<K)(M:Dd h m S F)(hb:HB h):∃D V,Bva disp K h m S F D V:=by
 obtain⟨lt,D,p,bl,ql,np,q,c,G,a⟩:=M.s;obtain⟨V,U,qc,qh,cs,hs,ms,F',b⟩:=a.drv.Qu;have due:Bbg disp K S.dr:=Bar A (by omega) S.dr;have t:=a.Kk.ext (h':=h.lift) fun i o g=>by rw[Ci];exact g
 refine⟨D,V,⟨fun k=>by rw[Arm a.Kk,As],Arm t,A23 t (D4 hb),fun k=>by rw[A6m b,As],fun i k=>by rw[A8z b.dev,As],?_,?_,?_,?_⟩⟩
 ·intro d hd i hs
  refine(Bay A (by omega) hd due a.drv hb i hs).mono ?_;rintro _ h' ⟨rfl,s2,c2,f⟩;obtain⟨M2,j⟩:=M.drv hb a s2 c2;exact⟨rfl,M2,j,f⟩
 ·intro d hd i
  refine(Awk A hd due a.drv hb i).mono ?_;rintro _ h' ⟨rfl,s2,c2,f⟩;obtain⟨M2,j⟩:=M.drv hb a s2 c2;exact⟨rfl,M2,j,f⟩
 ·intro d hd
  refine(Ay4 A (by omega) hd due a.drv hb).mono ?_;rintro _ h' ⟨rfl,s2,c2,f⟩;obtain⟨M2,j⟩:=M.drv hb a s2 c2;exact⟨rfl,M2,j,f⟩
 ·intro d hd z x u hu i W s k Q b0 b1 b2 v
  refine Ok.Bpc (S:=G) b0 b1 b2 (Av5 (K:=K) A (by omega) (d:=d) hd due a.drv.lift (D4 hb) z u hu) (fun _ _ p=>p.2.2.1) ?_;rintro _ h6 E s' ⟨rfl,d6,_,n⟩ sm J _;obtain⟨O,P⟩:=M.drv hb a (d6.same sm) J;exact v E s' O P (sm.hb n)
section
def arC(m:Nat)(cur By:Nat->Int):List EV:=[.ptr m 0,I (cur 0),I (By 0),I (cur 1),I (By 1),I (cur 2),I (By 2)]
section
variable (A:Bj disp)(hK:10000<K)(M:Dd h m S F)(hb:HB h)(hA:h.get ar=some (.cells (arC m cur By) 152))(fA:F ar){z:Int}
include A hK M hb hA
end
end
section
section
variable (A:Bj disp)(hK:10000<K){ll:Nat}{es:List Me}(M:Dd h m S F)(hb:HB h)(hA:h.get ar=some (.cells (arC m cur By) 152))(fA:F ar)(hr:rtB S.g=true)(mp:W8 h b ml ll S.g es){z:Int}(hR:snR x y z es=true)(n0:0<=zn)(n1:zn<S.g.D*S.g.Z)
include A hK M hb hA fA hr mp hR n0 n1
end
end
section
def Om(f:Nat->Int)(i:Nat)(v:Int):Nat->Int:=fun j=>if j=i then v else f j
theorem Bt7(hi:i<3):(arC m cur By)[1+i*2+1]? = some (I (By i)):=by
 rcases i with _|_|_|i<;>first|rfl|omega
theorem Bts(hi:i<3):(arC m cur By)[1+i*2]? = some (I (cur i)):=by
 rcases i with _|_|_|i<;>first|rfl|omega
theorem Bl0(hi:i<3)(v:Int):(arC m cur By).set (1+i*2+1) (I v)=arC m cur (Om By i v):=by
 rcases i with _|_|_|i<;>first|rfl|omega
theorem Bgw(hi:i<3)(v w:Int):O0 (arC m cur By) (1+i*2) [I v,I w]=some (arC m (Om cur i v) (Om By i w)):=by
 rcases i with _|_|_|i<;>first|rfl|omega
noncomputable def tgt(S:Mi)(o:Int)(i:Nat):Int × Mi:=
 if ¬o = -1/\S.F0 o=false then(o,S)else match S.ps i with
 | []=>(-1,S)
 | z::r=>(z,{ S with ps:=upd S.ps i r })
section
variable (A:Bj disp)(hK:10000<K)(M:Dd h m S F)(hb:HB h)(hA:h.get ar=some (.cells (arC m cur By) 152))(fA:F ar)(hi:i<3)
include hK M hb
theorem Bpn(hi:i<S.g.D.toNat)
 (u:∀h',(S.ps i = []->Dd h' m S F->Kf F h h'->HB h'->Ok (k (.tuple [I 0,I 15]) h') Q)/\(∀z r,S.ps i=z::r->Dd h' m { S with ps:=upd S.ps i r } F->Kf F h h'->HB h'->Ok (k (.tuple [I z,I 0]) h') Q)) :
 Ok (An (Ce K (.ptr m 0) h) fun v h=>An (Sb K v (I i) h) k) Q:=by
 obtain⟨lt,D,p,bl,ql,np,q,c,G,a⟩:=M.s;rw[Yj a.Kk,As];have n:=a.psz.nd;subst n;refine(A89 (K:=K) a.Hp hb a.psz (by omega) i).An ?_;rintro _ h' ⟨c3,j,x,e,ps',rfl,J,O,alt⟩;obtain⟨E,cH⟩:=a.Ave hb J O c3;have wf:∀{ps'},(∀d,d<S.g.D.toNat->∀x∈ps' d,x∈S.ps d)->Mi.Wf { S with ps:=ps' }:=fun sub=>{ toWp:=⟨M.wf.sm,fun d hd x f=>M.wf.ps d hd x (sub d hd x f)⟩,op:=M.wf.op }
 rcases alt with⟨y,_⟩|⟨_,_,y,rfl,rfl,rfl⟩|⟨_,_,rfl,r,y,rfl⟩
 ·omega
 ·obtain⟨o,t⟩:=M.made (W7.mono (H:=Out F h) ⟨fun i hi=>aK hi.1 cH.next,D,p,bl,ql,_,q,c,G,E⟩ (fun _=>.inl) (Bg.lt lt cH.next)) cH (wf fun d hd x f=>f)
  exact(u h').1 y o t j
 ·have y:S.ps i=x::r:=y
  obtain⟨o,t⟩:=M.made (W7.mono (H:=Out F h) ⟨fun i hi=>aK hi.1 cH.next,D,p,bl,ql,_,q,c,G,E⟩ (fun _=>.inl) (Bg.lt lt cH.next)) cH (wf fun d hd P f=>by
   unfold upd at f;split at f
   ·rename_i e
    have e:d=i:=e;subst e;rw[y];exact aT _ f
   ·exact f)
  exact(u h').2 x r y o t j
include hA fA hi
theorem Bkd(O:Rng (By i)):Ok (Wi K (.ptr ar 0) (I i) h) fun v h'=>v=I (tgt S (By i) i).1/\Dd h' m (tgt S (By i) i).2 F/\h'.get ar=some (.cells (arC m cur (Om By i (-1))) 152)/\Av (fun j=>¬F j\/j=ar) h h'/\HB h':=by
 have P:=hb _ _ hA;have sm:=M.wf.sm;have:=sm.d0;simp only[Wi,Aa];unfold I;rw[Air hi]
 try simp only[Aa]
 rw[Al hA rfl (Bt7 hi),Air hi]
 try simp only[Aa]
 refine Ok.st1 hA rfl rfl (by show _<7;omega) ?_;rw[show(arC m cur By).set (1+i*2+1) (.int .i64 (-1))=arC m cur (Om By i (-1))from Bl0 hi (-1)];have c1:Av (fun j=>j=ar) h (h.put ar (.cells (arC m cur (Om By i (-1))) 152)):=(Av.refl (S:=fun j=>j=ar) h).Ar (.inl rfl) P _;have f:(h.put ar (.cells (arC m cur (Om By i (-1))) 152)).get ar=some (.cells (arC m cur (Om By i (-1))) 152):=Af _ _ _;generalize h.put ar (.cells (arC m cur (Om By i (-1))) 152)=p at c1 f⊢;have a:=c1.hb hb;have E:=M.Ag7 c1 fun j hj _=>hj▸fA
 have n:Av (fun j=>¬F j\/j=ar) h p:=c1.mono fun j hj=>.inr hj
 have take:∀p,Dd p m S F->HB p->p.get ar=some (.cells (arC m cur (Om By i (-1))) 152)->Av (fun j=>¬F j\/j=ar) h p->Ok (Xl K (.ptr ar 0) (.int .i64 (i:Int)) p) fun v h'=>v=I (match S.ps i with | []=>(-1,S)|z::r=>(z,{ S with ps:=upd S.ps i r }):Int × Mi).1/\Dd h' m (match S.ps i with | []=>(-1,S)|z::r=>(z,{ S with ps:=upd S.ps i r }):Int × Mi).2 F/\h'.get ar=some (.cells (arC m cur (Om By i (-1))) 152)/\Av (fun j=>¬F j\/j=ar) h h'/\HB h':=by
  intro p E a f n;simp only[Xl,Aa];rw[Al f rfl (v:=.ptr m 0) rfl];refine Bpn hK E a (i:=i) (by omega) fun h'=>⟨fun e M2 G o=>?_,fun z r e M2 G o=>?_⟩
  ·rw[e]
   simp only[Aa,I,Ac];exact .ret ⟨rfl,M2,G.at a f fA,n.trans (G.mono fun j hj=>.inl hj),o⟩
  ·rw[e]
   simp only[Aa,I,Ac,aD,aA,Ags];exact .ret ⟨rfl,M2,G.at a f fA,n.trans (G.mono fun j hj=>.inl hj),o⟩
 simp only[I,Ac];unfold tgt;by_cases t:By i = -1
 ·rw[aF (fun y=>y.1 t)]
  simp only[t,aD,aA,Aa,Ac,Pc];exact take _ E a f n
 ·simp only[t,aN,aB,Aa,Ac,gO]
  rw[Al f rfl (v:=.ptr m 0) rfl];refine(Qn (K:=K) E.s a O).An ?_;rintro _ h2 ⟨rfl,u⟩;have o:=u.hb a;cases J:S.F0 (By i)with
  | true=>
   rw[aF (by simp)];simp only[Aa,Pc];exact take _ ((E.ext a u).less fun j (hj:F j)=>Or.inl hj) o (u.at a f) (n.trans (Ext.to u))
  | false=>
   rw[aG rfl];simp only[Aa,Pc];exact .ret ⟨rfl,(E.ext a u).less fun j (hj:F j)=>Or.inl hj,u.at a f,n.trans (Ext.to u),o⟩
end
end
structure Mk(S T:Mi):Prop where
 g:T.g=S.g
 dr:Dk S.dr T.dr
theorem Mk.refl(S:Mi):Mk S S:=⟨rfl,Dk.refl _⟩
theorem Mk.trans {T U:Mi}(a:Mk S T)(b:Mk T U):Mk S U:=⟨b.g.trans a.g,a.dr.trans b.dr⟩
theorem Bd0(S:Mi)(z u:Int):Mk S (S.leave z u).1:=by
 refine⟨(A9t S z u).1,?_⟩;unfold Mi.leave;split
 ·exact Dk.refl _
 ·split
  ·exact Dk.refl _
  ·exact Blc _ _
theorem Bo5(S:Mi):Mk S S.close.1:=by
 unfold Mi.close;exact((⟨rfl,Dk.refl _⟩:Mk S { S with a:=-1,b:=-1,u:=0 }).trans (Bd0 _ _ _)).trans (Bd0 _ _ _)
theorem Awl(S:Mi)(z:Int):Mk S (S.Cl z).1:=by
 unfold Mi.Cl;split
 ·exact Mk.refl _
 ·split
  ·exact Mk.refl _
  ·split
   ·exact⟨rfl,Dk.refl _⟩
   ·exact(⟨rfl,Dk.refl _⟩:Mk S (S.mark z)).trans (Bo5 _)
theorem Bnj(S:Mi):Mk S S.ready.1:=by
 refine⟨(Biz S).1,?_⟩;unfold Mi.ready;split
 ·exact Dk.refl _
 ·split
  ·exact A0c _
  ·split<;>exact A0c _
theorem Bfm(S:Mi)(e:En)(Aj Ba Ap seq:Int):Mk S (S.put e Aj Ba Ap seq).1:=by
 refine⟨(Bpx S e Aj Ba Ap seq).1,?_⟩;unfold Mi.put;split
 ·exact Dk.refl _
 ·exact Bll _ _ _
theorem Bsx(S:Mi)(e:En)(Ap seq:Int):Mk S (S.both e Ap seq).1:=by
 unfold Mi.both;split
 ·exact Bfm _ _ _ _ _ _
 ·exact(Bfm _ _ _ _ _ _).trans (Bfm _ _ _ _ _ _)
theorem Bdx(S:Mi):Mk S S.Aws:=⟨rfl,Dk.refl _⟩
theorem Bpm(B:Mi × Int × Int):Mk B.1 (Mi.Qs B):=by
 unfold Mi.Qs;split
 ·exact Bdx _
 ·exact Mk.refl _
theorem A7z(e:En)(Ap seq:Int):∀(n:Nat) (S:Mi),Mk S (Mi.Ye e Ap seq n S).1
 | 0,S=>Mk.refl S
 | n+1,S=>by
  have a:=Bnj S;have b:=a.trans (Bsx S.ready.1 e Ap seq);have c:=(b.trans (Bpm _)).trans (Awl _ (S.ready.1.both e Ap seq).2.1);unfold Mi.Ye;split
  ·exact a
  ·split
   ·exact b.trans (Bdx _)
   ·split
    ·exact b
    ·split
     ·exact c
     ·exact c.trans (A7z e Ap seq n _)
theorem Bd2(S:Mi)(e:En)(Ap seq:Int):Mk S (S.place e Ap seq).1:=by
 unfold Mi.place;split
 ·exact Mk.refl _
 ·exact A7z _ _ _ _ _
theorem Bpg(D:Dv)(i:Int):Vk D (D.begin i):=by
 unfold Dv.begin;split<;>exact⟨rfl,rfl,rfl⟩
theorem Bra(S:Lk)(i off:Int):Dk S (S.read i off).1:=(Aut S i).trans (Bei (S:=S.begin i) (Bpg _ i))
theorem Bh7{D:Lk}(d:Dk S.dr D):Mk S { S with dr:=D }:=⟨rfl,d⟩
theorem Au1(S:Mi)(x:Me)(Aj Ba:Int):Mk S (S.Dy x Aj Ba).1:=by
 have r:=Bh7 (Bra S.dr Aj x.off);unfold Mi.Dy;split
 ·exact r
 ·split
  ·exact r
  ·split
   ·exact r.trans (Awl _ _)
   ·exact r
theorem Bqy(S:Mi)(x:Me):Mk S (S.read x).1:=by
 unfold Mi.read;split
 ·exact Mk.refl _
 ·split
  ·exact Au1 _ _ _ _
  ·split<;>exact(Au1 _ _ _ _).trans (Au1 _ _ _ _)
theorem Bet(S:Mi)(x:Me):Mk S (S.check x).1:=by
 unfold Mi.check;split
 ·exact Mk.refl _
 ·split
  ·exact Au1 _ _ _ _
  ·have c:=(Au1 S x x.Aj x.Ba).trans (Au1 (S.Dy x x.Aj x.Ba).1 x x.Ba x.Aj)
   unfold Mi.A5h;split
   ·exact c
   ·split<;>exact c
theorem Bpw:TT.eqs 23=some [0,0,0,0,0,0]:=by kernel_rfl
theorem Bom(a:Int):eqB a a=true:=by rw[<-Bgn,A3j];simp
theorem Bua(g:Gm)(k:EV->R):Kl Alb (bin TT .neq 23) (gV g) (gV g) k=k (.bool false):=by
 have a:Axy TT 23 (gV g) (gV g)=some true:=by
  unfold Axy gV;rw[Bpw];simp only[gL,shaped,I];rw[show Nat.beq 0 0=true from rfl];simp only[Ak,F1,Ao6,show Nat.beq (T4 .i64) (T4 .i64)=true from rfl,Bom]
 show oB k (match Axy TT 23 (gV g) (gV g)with|some b=>some (EV.bool (Bf b false true))|none=>none)=_;rw[a];rfl
structure Bj2(S:Mi)(cur By:Nat->Int):Prop where
 cur:∀i,i<3->cur i = -1\/Bu S.g (cur i)=i
 By:∀i,i<3->By i = -1\/Bu S.g (By i)=i
section
theorem Bj2.of {T:Mi}(a:Bj2 S cur By)(g:T.g=S.g):Bj2 T cur By:=⟨by rw[g];exact a.cur,by rw[g];exact a.By⟩
section
variable (A:Bj disp)(hK:10000<K){ll:Nat}{es:List Me}(fA:F ar)(fb:F b/\F ml/\F ll/\b≠ar/\ml≠ar/\ll≠ar){z:Int}(hR:snR x y z es=true)(hi:i<3)
include A hK fA fb hR hi
end
end
section
section
variable (A:Bj disp)(hK:10000<K){ll:Nat}{es:List Me}(fA:F ar)(fb:F b/\F ml/\F ll/\b≠ar/\ml≠ar/\ll≠ar){z:Int}
include A hK fA fb
end
theorem Btv(hi:i<3)(h:Ab):Azm K (I i) h=some (.bool true,h):=by
 simp only[Azm,A1o,I,Ac];have e1:decide (0<=(i:Int))=true:=by simp
 have e2:decide ((i:Int)<3)=true:=by simp;omega
 simp only[e1,e2,Aa,Ac]
section
variable(M:Dd h m S F)(hb:HB h)(hA:h.get ar=some (.cells (arC m cur By) 152))
include M hb hA
theorem Bje{z:Int}(f:z = -1\/Bu S.g z=i):Ok (Ty K (.ptr ar 0) (I i) (I z) h) fun v h'=>v=.bool true/\Ext h h':=by
 simp only[Ty,I,Ac];have sm:=M.wf.sm;by_cases a:z = -1
 ·simp only[a,aB,Aa,Ac,Aan]
  exact .ret ⟨rfl,Av.refl _⟩
 ·simp only[a,aA,Aa,Ac,Aan]
  rw[Al hA rfl (v:=.ptr m 0) rfl];refine(Ss (K:=K) M hb).An ?_;rintro _ h2 ⟨rfl,j⟩;have hd:=f.resolve_left a;refine(Lt (K:=K) sm z (Af4 sm (by omega)) h2).An ?_;rintro _ o ⟨rfl,n⟩;simp only[I,Ac,hd,aB,Aa];exact .ret ⟨rfl,j.trans n⟩
theorem Btw(fA:F ar)(hi:i<3){v w:Int}(E:v = -1\/Bu S.g v=i)(hw:w = -1\/Bu S.g w=i)(G:¬v=w):Ok (X8 K (.ptr ar 0) (I i) (I v) (I w) h) fun r h'=>r=I 0/\Dd h' m S F/\h'.get ar=some (.cells (arC m (Om cur i v) (Om By i w)) 152)/\Av (fun j=>j=ar) h h'/\HB h':=by
 simp only[X8,Btv hi,Aa,Ac];refine(Bje (K:=K) M hb hA E).An ?_;rintro _ h2 ⟨rfl,o⟩;have a:=o.hb hb;have M2:=(M.ext hb o).less fun j (hj:F j)=>Or.inl hj
 simp only[Aa,Ac,Alm];refine(Bje (K:=K) M2 a (o.at hb hA) hw).An ?_;rintro _ p ⟨rfl,t⟩;have f:=t.hb a;have x:Ext h p:=o.trans t;have J:=(M.ext hb x).less fun j (hj:F j)=>Or.inl hj
 have n:=x.at hb hA;have u:=f _ _ n;simp only[Aa,Ac,Am3,I,G,aA,Ama,Amm,Anm,Ano];rw[Ay (l:=[I v,I w]) rfl]
 try simp only[Aa]
 rw[Air hi];refine Ok.st (arC m (Om cur i v) (Om By i w)) n rfl rfl (Bgw hi v w) ?_;have c:Av (fun j=>j=ar) p (p.put ar (.cells (arC m (Om cur i v) (Om By i w)) 152)):=(Av.refl (S:=fun j=>j=ar) p).Ar (.inl rfl) u _;exact .ret ⟨rfl,J.Ag7 c fun j hj _=>hj▸fA,Af _ _ _,(Ext.to x).trans c,f.put u _⟩
end
end
structure Co where
 S:Mi
 cur:Nat->Int
 By:Nat->Int
 es:List Me
 gen:Int
 ep:Int
 nx:Int
 st:Bool
variable {X:Co}
structure Cb where
 c:Nat
 ar:Nat
 m:Nat
 b:Nat
 ml:Nat
 ll:Nat
variable {B:Cb}
def Cb.own(B:Cb)(i:Nat):Prop:=i=B.c\/i=B.ar\/i=B.b\/i=B.ml\/i=B.ll
def Cb.fr(B:Cb)(F:Nat->Prop)(i:Nat):Prop:=F i\/B.own i
def Co.cells(B:Cb)(X:Co):List EV:=[.ptr B.m 0,.ptr B.ar 0,.ptr B.b 0,I X.gen,I X.ep,I X.nx,.bool X.st]
structure Co.Wf(X:Co):Prop where
 rt:rtB X.S.g=true
 an:Bj2 X.S X.cur X.By
 sz:0<X.S.dr.dv.size
structure Cz(h:Ab)(B:Cb)(X:Co)(F:Nat->Prop):Prop where
 M:Dd h B.m X.S (B.fr F)
 core:h.get B.c=some (.cells (X.cells B) 109)
 ar:h.get B.ar=some (.cells (arC B.m X.cur X.By) 152)
 map:W8 h B.b B.ml B.ll X.S.g X.es
 wf:X.Wf
 out:∀i,F i->¬B.own i
 hb:HB h
def Ck(X Y:Co):Prop:=Mk X.S Y.S
theorem Ck.refl(X:Co):Ck X X:=Mk.refl _
theorem Ck.trans {Y Z:Co}(a:Ck X Y)(b:Ck Y Z):Ck X Z:=Mk.trans a b
structure Ej(h h':Ab)(B:Cb)(X:Co)(F:Nat->Prop)(Y:Co):Prop where
 C:Cz h' B Y F
 k:Kf F h h'
 ck:Ck X Y
section
variable {h':Ab}{Y:Co}{F':Nat->Prop}
theorem Cz.ne(C:Cz h B X F):B.c≠B.ar/\B.c≠B.b/\B.c≠B.ml/\B.c≠B.ll/\B.ar≠B.b/\B.ar≠B.ml/\B.ar≠B.ll/\B.b≠B.ml/\B.b≠B.ll/\B.ml≠B.ll:=
 ⟨Bb C.core C.ar (by simp),Bb C.core C.map.map (by simp),Bb C.core C.map.row (by simp),Bb C.core C.map.live (by simp),Bb C.ar C.map.map (by simp),Bb C.ar C.map.row (by simp),Bb C.ar C.map.live (by simp),
  Bb C.map.map C.map.row (by simp),Bb C.map.map C.map.live (by simp),Bb C.map.row C.map.live (by simp)⟩
theorem Cz.sm(C:Cz h B X F):Sm X.S.g:=C.M.wf.sm
theorem Ej.refl(C:Cz h B X F):Ej h h B X F X:=⟨C,Av.refl _,Ck.refl _⟩
theorem Ej.trans {f h2 j:Ab}{Y Z:Co}(a:Ej f h2 B X F Y)(b:Ej h2 j B Y F Z):Ej f j B X F Z:=⟨b.C,a.k.trans b.k,a.ck.trans b.ck⟩
theorem Ej.hb(a:Ej h h' B X F Y):HB h':=a.C.hb
theorem Dd.kp(M:Dd h m S F)(k:Kp T h h'):Dd h' m S (Bg F h h'):=by
 refine⟨(M.s.frame k.chg.next fun i hi=>k.same i hi.1).mono (fun i hi=>⟨aK hi.1 k.chg.next,fun y=>?_⟩) fun i hi=>hi.1,Bg.lt M.lt k.chg.next,M.wf⟩;rcases y with y|y
 ·exact hi.2 y
 ·have:=hi.1;omega
theorem Cz.kp(C:Cz h B X F)(k:Kp T h h'):Cz h' B X (Bg F h h'):=by
 refine⟨(C.M.kp k).less fun i hi=>?_,k.at C.hb C.core,k.at C.hb C.ar,C.map.ext fun i o g=>k.at C.hb g,C.wf,fun i hi=>?_,k.chg.hb C.hb⟩
 ·rcases hi with(hi|hi)|hi
  ·exact .inl (.inl hi)
  ·exact .inr hi
  ·exact .inl (.inr hi)
 ·rcases hi with hi|hi
  ·exact C.out i hi
  ·intro y
   have a:=C.hb _ _ C.core;have f:=C.hb _ _ C.ar;have j:=C.hb _ _ C.map.map;have a4:=C.hb _ _ C.map.row;have a5:=C.hb _ _ C.map.live;rcases y with y|y|y|y|y<;>omega
theorem Cz.less(C:Cz h B X F)(s:∀i,F' i->F i):Cz h B X F':=
 ⟨C.M.less fun i hi=>hi.imp (s i) id,C.core,C.ar,C.map,C.wf,fun i hi=>C.out i (s i hi),C.hb⟩
theorem Cz.ext(C:Cz h B X F)(x:Ext h h'):Cz h' B X (Bg F h h'):=C.kp (T:=fun _=>False) (Ext.kp x)
theorem Cz.toE(C:Cz h B X F)(x:Ext h h'):Ej h h' B X F X:=⟨(C.ext x).less fun _=>.inl,Ext.kf x,Ck.refl _⟩
theorem Cz.toK(C:Cz h B X F)(k:Kp T h h')(t:∀i,T i->¬F i):Ej h h' B X F X:=⟨(C.kp k).less fun _=>.inl,k.chg.mono t,Ck.refl _⟩
theorem Co.Wf.Kk(w:X.Wf)(mk:Mk X.S S'):({ X with S:=S' }:Co).Wf:=⟨by show rtB S'.g=true;rw[mk.g];exact w.rt,w.an.of mk.g,by show 0<S'.dr.dv.size;rw[mk.dr.size];exact w.sz⟩
theorem Cz.Kk(C:Cz h B X F)(f:Dd h' B.m S' (B.fr F))(k:Kf (B.fr F) h h')(a:HB h')(mk:Mk X.S S'):Ej h h' B X F { X with S:=S' }:=by
 have g:S'.g=X.S.g:=mk.g;exact⟨⟨f,k.at C.hb C.core (.inr (.inl rfl)),k.at C.hb C.ar (.inr (.inr (.inl rfl))),by
  show W8 h' B.b B.ml B.ll S'.g X.es;rw[g];exact C.map.frame (k.get _ (C.hb _ _ C.map.map) fun y=>y (.inr (.inr (.inr (.inl rfl))))) (k.get _ (C.hb _ _ C.map.row) fun y=>y (.inr (.inr (.inr (.inr (.inl rfl)))))) (k.get _ (C.hb _ _ C.map.live) fun y=>y (.inr (.inr (.inr (.inr (.inr rfl)))))),
  C.wf.Kk mk,C.out,a⟩,k.less fun _=>.inl,mk⟩
theorem Cz.Bvn(C:Cz h B X F){a f:Nat->Int}(o:Dd h' B.m S' (B.fr F))(hA:h'.get B.ar=some (.cells (arC B.m a f) 152))(c:Av (fun j=>¬B.fr F j\/j=B.ar) h h')(n:HB h')(mk:Mk X.S S')(an:Bj2 S' a f):
 Ej h h' B X F { X with S:=S',cur:=a,By:=f }:=by
 have g:S'.g=X.S.g:=mk.g;obtain⟨n1,G,n3,n4,p,t,u,J,O,v⟩:=C.ne;have kp:∀i,B.own i->i≠B.ar->¬(¬B.fr F i\/i=B.ar):=fun i hi E y=>y.elim (fun y=>y (.inr hi)) E
 exact⟨⟨o,c.at C.hb C.core (kp _ (.inl rfl) n1),hA,by
  show W8 h' B.b B.ml B.ll S'.g X.es;rw[g];exact C.map.frame (c.get _ (C.hb _ _ C.map.map) (kp _ (.inr (.inr (.inl rfl))) p.symm)) (c.get _ (C.hb _ _ C.map.row) (kp _ (.inr (.inr (.inr (.inl rfl)))) t.symm)) (c.get _ (C.hb _ _ C.map.live) (kp _ (.inr (.inr (.inr (.inr rfl)))) u.symm)),
  ⟨by show rtB S'.g=true;rw[g];exact C.wf.rt,an,by show 0<S'.dr.dv.size;rw[mk.dr.size];exact C.wf.sz⟩,C.out,n⟩,
  c.mono fun i hi y=>hi.elim (fun w=>w (.inl y)) fun w=>C.out i y (w▸.inr (.inl rfl)),mk⟩
theorem Cz.Bt4(C:Cz h B X F){a:List Me}(mp:W8 h' B.b B.ml B.ll X.S.g a)(c:Av (fun i=>i=B.ml\/i=B.ll) h h')(f:HB h'):Ej h h' B X F { X with es:=a }:=by
 obtain⟨n1,t,n3,n4,u,n,o,v,E,p⟩:=C.ne;have j:∀i,i=B.ml\/i=B.ll->B.own i:=fun i hi=>hi.elim (fun y=>.inr (.inr (.inr (.inl y)))) fun y=>.inr (.inr (.inr (.inr y)))
 exact⟨⟨C.M.Ag7 c fun i hi _=>.inr (j i hi),c.at C.hb C.core fun y=>y.elim n3 n4,c.at C.hb C.ar fun y=>y.elim n o,mp,⟨C.wf.rt,C.wf.an,C.wf.sz⟩,C.out,f⟩,c.mono fun i hi y=>C.out i y (j i hi),Mk.refl _⟩
theorem Cz.Bu3(C:Cz h B X F)(g e n:Int)(s:Bool):Ej h (h.put B.c (.cells (({ X with gen:=g,ep:=e,nx:=n,st:=s }:Co).cells B) 109)) B X F { X with gen:=g,ep:=e,nx:=n,st:=s }:=by
 obtain⟨n1,a,n3,n4,j,o,p,t,u,f⟩:=C.ne;have l:=C.hb _ _ C.core;have c:Av (fun i=>i=B.c) h (h.put B.c (.cells (({ X with gen:=g,ep:=e,nx:=n,st:=s }:Co).cells B) 109)):=(Av.refl (S:=fun i=>i=B.c) h).Ar (.inl rfl) l _;exact⟨⟨C.M.Ag7 c fun i hi _=>.inr (.inl hi),Af _ _ _,by rw[Ag _ n1];exact C.ar,C.map.frame (Ag _ a) (Ag _ n3) (Ag _ n4),⟨C.wf.rt,C.wf.an,C.wf.sz⟩,C.out,C.hb.put l _⟩,c.mono fun i hi y=>C.out i y (.inl hi),Mk.refl _⟩
theorem Cz.Ag7(C:Cz h B X F)(c:Av T h h')(t:∀i,T i->i<h.next->F i)(a:HB h'):Cz h' B X F:=by
 have no:∀i,B.own i->i<h.next->¬T i:=fun i hi f y=>C.out i (t i y f) hi
 have l1:=C.hb _ _ C.core;have p:=C.hb _ _ C.ar;have j:=C.hb _ _ C.map.map;have n:=C.hb _ _ C.map.row;have o:=C.hb _ _ C.map.live;exact⟨C.M.Ag7 c fun i hi f=>.inl (t i hi f),c.at C.hb C.core (no _ (.inl rfl) l1),c.at C.hb C.ar (no _ (.inr (.inl rfl)) p),
  C.map.frame (c.get _ j (no _ (.inr (.inr (.inl rfl))) j)) (c.get _ n (no _ (.inr (.inr (.inr (.inl rfl)))) n)) (c.get _ o (no _ (.inr (.inr (.inr (.inr rfl)))) o)),C.wf,C.out,a⟩
end
section
variable(C:Cz h B X F)
include C
theorem Cz.ldM(k:EV->R):Fm (.ptr B.c 0) h k=k (.ptr B.m 0):=Al C.core rfl rfl
theorem Cz.Ku(k:EV->R):Fm (.ptr B.c 1) h k=k (.ptr B.ar 0):=Al C.core rfl rfl
theorem Cz.ldB(k:EV->R):Fm (.ptr B.c 2) h k=k (.ptr B.b 0):=Al C.core rfl rfl
theorem Cz.ldG(k:EV->R):Fm (.ptr B.c 3) h k=k (I X.gen):=Al C.core rfl rfl
theorem Cz.ldE(k:EV->R):Fm (.ptr B.c 4) h k=k (I X.ep):=Al C.core rfl rfl
theorem Cz.ldN(k:EV->R):Fm (.ptr B.c 5) h k=k (I X.nx):=Al C.core rfl rfl
theorem Cz.ldS(k:EV->R):Fm (.ptr B.c 6) h k=k (.bool X.st):=Al C.core rfl rfl
end
end Go.Ev
