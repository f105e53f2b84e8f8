import Derived.Test.YtadnemjjlacolaaGreatCa
import Derived.Test.YtadnemjjlacolaaGreatVb
set_option linter.all false
namespace Go.Ev
open Go.Proofs
set_option maxRecDepth 100000
variable {h h0:Aa}{K b d i m q ar ml sz:Nat}{e:TypeId}{k:EV->Aa->R}{Q:EV->Aa->Prop}{x y zn:Int}{g:Gm}{L:List Fr}{S S':Mi}{F T:Nat->Prop}{Bt cur:Nat->Int}{disp:Nat->Option FT}
section
def Apd(h:Aa)(s:EV)(q:Nat)(e:TypeId)(sz len:Nat)(l:List EV):Prop:=
 Cj h s q e sz len l\/(len=1/\s=.slice q 0 1 1 false/\h.get q=some (.cells l e)/\l.length=sz)
theorem Apd.frame {h':Aa}{s:EV}{len:Nat}{l:List EV}(r:Apd h s q e sz len l)(g:0<len->h'.get q=h.get q):Apd h' s q e sz len l:=by
 rcases r with r|⟨a,b,c,d⟩
 ·exact .inl (r.frame g)
 ·exact .inr ⟨a,b,by rw[g (by omega)];exact c,d⟩
theorem Apd.lt{s:EV}{len:Nat}{l:List EV}(r:Apd h s q e sz len l)(hb:HB h)(f:0<len):q<h.next:=by
 rcases r with r|⟨a,b,c,d⟩
 ·exact hb _ _ (r.block f)
 ·exact hb _ _ c
theorem A9r{s v:EV}{len:Nat}{l z:List EV}(r:Apd h s q e sz len l)(hb:HB h)(hp:v.plain=true)(f:z.length=sz)(a:v.cells.length=sz)(hs:sz<=65536)(o:len<=65535)
 (j:∀h',Cj h' (.slice (h.next+1) 0 (len+1) (len+1) true) (h.next+1) e sz (len+1) (l++v.cells)->h'.next=h.next+2->Ar (fun i=>0<len/\i=q) h h'->Ok (k (.slice (h.next+1) 0 (len+1) (len+1) true) h') Q) :
 Ok (Ap (Bx z e sz 1 [(0,v)] h) fun w h=>Ap (D9 e sz s w h) k) Q:=by
 rcases r with r|⟨rfl,rfl,g,ll⟩
 ·exact Nu r hb hp f a hs (by omega) j
 ·rw[Aa8 hp f a hs,As]
  have n:(h.new (.cells v.cells e)).get q=some (.cells l e):=by rw[Aw _ (hb _ _ g)];exact g
  have c1:=V6 (sz:=sz) (Ad h (.cells v.cells e)) a;have c2:=V6 (sz:=sz) n ll;have e1:D9 e sz (.slice q 0 1 1 false) (.slice h.next 0 1 1 false) (h.new (.cells v.cells e))=some (.slice (h.next+1) 0 2 2 true,(h.new (.cells v.cells e)).new (.vec (l++v.cells) e sz)):=by
   unfold D9;simp only[lenOf,Gx,c1,c2,As2];rfl
  rw[e1,As];refine j _ (.inr ⟨by omega,rfl,Ad _ _,by rw[aG,ll,a];omega⟩) rfl ((Ar.new _ _).Df _)
def Bge(L:List Fr):Prop:=∀f∈L,f.Wf/\frB f=true
theorem A7h(a b c d e:EV){x y:List EV}(h:x.length=y.length):L7 ([a,b,c,d,e]++x) 5 y=some ([a,b,c,d,e]++y):=by
 rw[Aj9 (by rw[aG,h];exact aE _)];have:([a,b,c,d,e]++x).drop (5+y.length) = []:=dV (by rw[aG,h];exact aE _);rw[this,dE];rfl
theorem Bmr{l:List Nat}(a:l.length=44):Zr (Dh [(0,1),(1,1),(2,1),(3,1),(4,1),(5,44)]) [(0,EV.int .i64 4),(1,I zn),(3,I y),(4,I x),(5,.agg (Bj l))] (List.replicate 5 (EV.int .i64 0)++List.replicate 44 (EV.int .u8 0))=some (Fr.mk 4 zn 0 y x l).cells:=by
 show Ba (Nat.beq (Fz (Bj l)) 44) (oB (fun z=>some z) (L7 ([I 4,I zn,I 0,I y,I x]++List.replicate 44 (.int .u8 0)) 5 (Bj l))) none=_;rw[Bc,Bg,a,A7h _ _ _ _ _ (by rw[Bg,a,bV])];rfl
theorem Bob {z:Int}{es:List Me}(h:snR x y z es=true):(1<=x/\x<=281474976710655)/\(1<=y/\y<=4294967295)/\1<=z/\z<=281474976710655:=by
 unfold snR at h;simp only[aV,aU]at h;exact⟨h.1,h.2.1,h.2.2.1.1,h.2.2.1.2⟩
section
variable (H:Bv disp)
theorem A60(hK:1000<K){c r:Ai}{ll t f:Nat}{es:List Me}(s:Sm g)(m:Rl h0 b ml ll g es)(o:HB h0){z:Int}(x0:1<=x)(x1:x<=281474976710655)(y0:1<=y)(y1:y<=4294967295)(z0:0<=zn)(z1:zn<=65535)(lt:h0.next<=t)(lf:h0.next<=f)(tf:t≠f):
 ∀(n i:Nat) (h:Aa) (v:EV) (q:Nat) (L:List Fr) (F:Fr),g.parts.toNat-i<n->1<=i->i<=g.parts->Ext h0 h->HB h->h.get t=some (.cells [I x,I y,I z,.ptr b 0] 160)->h.get f=some (.cells F.cells 167)->F.Wf->F.Ah=zn->F.Am=y->F.seq=x->L.length=i->Bge L->Apd h v q 167 49 i (L.map Fr.cells).flatten->h0.next<=q->q≠t->q≠f ->
 Ok (Ro c r K n (.ptr t 0) (.ptr f 0) v (I i) h) fun w h'=>∃v q L,w=.tuple [v,I 0]/\Apd h' v q 167 49 L.length (L.map Fr.cells).flatten/\h0.next<=q/\(L.length:Int)=g.parts/\Bge L/\Ext h0 h'/\HB h':=by
 have:=s.b0;have:=s.b1;have hp:2<=g.parts/\g.parts<=200:=by unfold Gm.parts;omega
 intro n;induction n with
 | zero=>intro i h v q L F hn;omega
 | succ n ih=>
  intro i h v q L F hn i1 hi V hb gt gf w fz fe fs hL hI row lq qt qf;rw[Ro];simp only[Ab];rw[Al gt rfl (v:=.ptr b 0) rfl];have mh:=m.frame (V.get _ (o _ _ m.map) id) (V.get _ (o _ _ m.row) id) (V.get _ (o _ _ m.live) id);refine(Agb (K:=K) mh hb).Ap ?_;rintro _ h2 ⟨rfl,x2,bj⟩;rw[Apw s,As];have P:Ext h (h2.new (.cells (gL g) 23)):=x2.Df _;generalize h2.new (.cells (gL g) 23)=h3 at P⊢;have u:=P.hb hb;have W:=P.at hb gt;have ao:=P.at hb gf;have E:=row.frame (h':=h3) fun y=>P.get _ (row.lt hb y) id
  simp only[I,Ac];by_cases aa:(i:Int)<g.parts
  ·simp only[aa,aB,Ab,Anl]
   rw[Cw W rfl,Ak (n:=4) rfl];simp only[Ab];have G:Ext h0 h3:=V.trans P;refine(A2t hK s (m.frame (G.get _ (o _ _ m.map) id) (G.get _ (o _ _ m.row) id) (G.get _ (o _ _ m.live) id)) u (by omega) (by omega)).Ap ?_;rintro _ h4 ⟨⟨l,rfl,hl,hu⟩,x4,au⟩;have ab:=x4.at u ao;have l4:=au _ _ ab;have ax:Ext h0 h4:=G.trans x4;have ad:=E.frame (h':=h4) fun y=>x4.get _ (E.lt u y) id
   have ay:=x4.at u W;refine Ok.st1 ab rfl rfl (by rw[Fr.Bm w];decide) ?_;refine Ok.st1 (Ae _ _ _) rfl rfl (by rw[bM,Fr.Bm w];decide) ?_;have e5:((F.cells.set 0 (.int .i64 5)).set 2 (.int .i64 (i:Int))) = [I 5,I F.Ah,I i,I F.Am,I F.seq]++Bj F.body:=rfl;rw[e5];refine Ok.st ([I 5,I F.Ah,I i,I F.Am,I F.seq]++Bj l) (Ae _ _ _) rfl (by show Fz (Bj l)=44;rw[Bc,Bg,hl]) (A7h (y:=Bj l) _ _ _ _ _ (by rw[Bg,Bg,w.len,hl])) ?_;have x5:Ext h0 (((h4.put f (.cells (F.cells.set 0 (.int .i64 5)) 167)).put f (.cells ([I 5,I F.Ah,I i,I F.Am,I F.seq]++Bj F.body) 167)).put f (.cells ([I 5,I F.Ah,I i,I F.Am,I F.seq]++Bj l) 167)):=((ax.Aq (.inr lf) l4 _).Aq (.inr lf) l4 _).Aq (.inr lf) l4 _;have J:(((h4.put f (.cells (F.cells.set 0 (.int .i64 5)) 167)).put f (.cells ([I 5,I F.Ah,I i,I F.Am,I F.seq]++Bj F.body) 167)).put f (.cells ([I 5,I F.Ah,I i,I F.Am,I F.seq]++Bj l) 167)).get f=some (.cells (Fr.mk 5 F.Ah i F.Am F.seq l).cells 167):=Ae _ _ _;have U:(((h4.put f (.cells (F.cells.set 0 (.int .i64 5)) 167)).put f (.cells ([I 5,I F.Ah,I i,I F.Am,I F.seq]++Bj F.body) 167)).put f (.cells ([I 5,I F.Ah,I i,I F.Am,I F.seq]++Bj l) 167)).get t=some (.cells [I x,I y,I z,.ptr b 0] 160):=by
    rw[Af _ (cP tf),Af _ (cP tf),Af _ (cP tf)];exact ay
   have O:=ad.frame (h':=(((h4.put f (.cells (F.cells.set 0 (.int .i64 5)) 167)).put f (.cells ([I 5,I F.Ah,I i,I F.Am,I F.seq]++Bj F.body) 167)).put f (.cells ([I 5,I F.Ah,I i,I F.Am,I F.seq]++Bj l) 167))) fun y=>by
    rw[Af _ (cP qf),Af _ (cP qf),Af _ (cP qf)]
   generalize (((h4.put f (.cells (F.cells.set 0 (.int .i64 5)) 167)).put f (.cells ([I 5,I F.Ah,I i,I F.Am,I F.seq]++Bj F.body) 167)).put f (.cells ([I 5,I F.Ah,I i,I F.Am,I F.seq]++Bj l) 167))=h5 at x5 J U O⊢;have p:=x5.hb o;have w5:(Fr.mk 5 F.Ah i F.Am F.seq l).Wf:=⟨hl,hu⟩;rw[Cr J rfl (Ak (Fr.Bm w5))];refine A9r O p rfl rfl (Fr.Bm w5) (by omega) (by omega) ?_;intro h6 ae n6 c6;simp only[Ami,I,Ac];rw[Cq,show((i:Nat):Int)+1=((i+1:Nat):Int) by omega];have t5:=p _ _ U;have f5:=p _ _ J;refine ih (i+1) h6 _ (h5.next+1) (L++[Fr.mk 5 F.Ah i F.Am F.seq l]) _ (by omega) (by omega) (by omega) (x5.then c6 fun j hj a=>by omega) (c6.hb p) (c6.at p U fun y=>qt y.2.symm) (c6.at p J fun y=>qf y.2.symm) w5 fz fe fs (by rw[aG,hL];rfl) ?_ ?_ (by have:=x5.next;omega) (by omega) (by omega)
   ·intro fr az
    rcases bJ.1 az with y|y
    ·exact hI fr y
    ·rw[aM]at y
     subst y;refine⟨w5,?_⟩;simp only[frB,wi,aV,aU,fz,fe,fs];omega
   ·rw[cS,dX,show([Fr.mk 5 F.Ah i F.Am F.seq l].map Fr.cells).flatten=(Fr.mk 5 F.Ah i F.Am F.seq l).cells from dE _];exact .inl ae
  ·simp only[aa,aA,Ab,Am3]
   exact .ret ⟨v,q,L,rfl,by rw[hL];exact E,lq,by rw[hL];omega,hI,V.trans P,u⟩
include H
theorem Bds(hd:7<=d)(hK:1000<K){ll:Nat}{es:List Me}(hr:rtB g=true)(m:Rl h b ml ll g es)(hb:HB h){z:Int}(hR:snR x y z es=true)(n0:0<=zn)(n1:zn<g.D*g.Z):
 Ok (Ag TT disp K d false 212 [.agg [I x,I y,I z,.ptr b 0],I zn] h) fun w h'=>∃v q L,w=.tuple [v,I 0]/\Apd h' v q 167 49 L.length (L.map Fr.cells).flatten/\h.next<=q/\(L.length:Int)=g.parts/\Bge L/\Ext h h'/\HB h':=by
 have s:=Oj hr;obtain⟨⟨x0,x1⟩,⟨y0,y1⟩,z0,z1⟩:=Bob hR;have:=s.b0;have:=s.b1;have:=s.s0;have:=s.d0;have:=s.d1;have:=s.z0;have:=s.z1;obtain⟨m0,m1⟩:=Qi (a:=g.D) (b:=g.Z) (A:=8) (B:=64) (by omega) (by omega) (by omega) (by omega);obtain⟨e,rfl⟩:∃k,d=k+1:=⟨d-1,by omega⟩;rw[Aw0 H (by omega)];simp only[Ava,Ab];obtain⟨h1,e_,w1,g1,a2⟩:=nW h (.cells [I x,I y,I z,.ptr b 0] 160);rw[e_];have o:=w1.hb hb;have t:=m.frame (w1.get _ (hb _ _ m.map) id) (w1.get _ (hb _ _ m.row) id) (w1.get _ (hb _ _ m.live) id);rw[Cw g1 rfl,Ak (n:=4) rfl];simp only[Ab];refine(Ap7 (K:=K) H (d:=e) (by omega) hK s t o x y z).Ap ?_;rw[hR];rintro _ h2 ⟨rfl,O,u⟩;have g2:=O.at o g1;simp only[Ab,Ac];rw[Al g2 rfl (v:=.ptr b 0) rfl];have m2:=t.frame (O.get _ (o _ _ t.map) id) (O.get _ (o _ _ t.row) id) (O.get _ (o _ _ t.live) id);refine(Agb (K:=K) m2 u).Ap ?_;rintro _ h3 ⟨rfl,x3,V⟩;refine(Ahs (K:=K) (g:=g) V zn 0).Ap ?_;rintro _ h4 ⟨rfl,x4⟩;have hh:Sk g zn 0=true:=by
  simp only[Sk,hr,wi,bA,aV,aU];omega
 rw[hh];have E:=x4.hb V;simp only[Ab,Aob,Anm];have j:Ext h2 h4:=x3.trans x4;have W:=j.at u g2;have l4:=E _ _ W;have m4:=m2.frame (j.get _ (u _ _ m2.map) id) (j.get _ (u _ _ m2.row) id) (j.get _ (u _ _ m2.live) id);rw[Jb l4,Al W rfl (v:=I y) rfl]
 try simp only[Ab,Au]
 rw[Jb l4,Al W rfl (v:=I x) rfl]
 try simp only[Ab,Au]
 rw[Jb l4,Cw W rfl,Ak (n:=4) rfl]
 try simp only[Ab,Au]
 refine Ok.bE (P:=fun v h'=>Arn v/\Ext h4.lift h') ((A22 hK s (m4.frame (By _ _) (By _ _) (By _ _)) (Dg E) (by omega) (by omega)).mono fun _ _ a=>⟨a.1,a.2.1⟩) (fun _ _ p=>p.2) ?_;rintro _ a6 h5 ⟨⟨l,rfl,hl,hu⟩,_⟩ _ x5;have G:=x5.hb E;have g5:=x5.at E W;have w5:(Fr.mk 4 zn 0 y x l).Wf:=⟨hl,hu⟩;rw[Ax (l:=(Fr.mk 4 zn 0 y x l).cells) ?_]
 ·simp only[Ab,Au]
  rw[J6];refine Ok.stW (xs:=(Fr.mk 4 zn 0 y x l).cells) (Ad _ _) (by simp) (Fr.Bm w5) ?_;obtain⟨U,e_,x6,g6,n6⟩:=nP h5 (.cells (List.replicate 5 (EV.int .i64 0)++List.replicate 44 (.int .u8 0)) 167) (.cells (Fr.mk 4 zn 0 y x l).cells 167);rw[e_];have J:=x6.hb G;rw[Cw g6 rfl,Ak (Fr.Bm w5)];simp only[Ab];rw[Aa8 (v:=.agg (Fr.mk 4 zn 0 y x l).cells) rfl (by simp) (Fr.Bm w5) (by omega),As];have x7:Ext U (U.new (.cells (Fr.mk 4 zn 0 y x l).cells 167)):=Ar.new _ _;have ah:Ext h U:=(((w1.trans O).trans j).trans x5).trans x6;have ai:Ext h (U.new (.cells (Fr.mk 4 zn 0 y x l).cells 167)):=ah.trans x7;have k1:=(w1.trans O).next
  have k2:=j.next
  have k3:=x5.next
  have lg:=G _ _ g5;refine A60 hK s m hb x0 x1 y0 y1 n0 (by omega) (aE _) (f:=h5.next) (by omega) (by omega) K 1 _ (.slice U.next 0 1 1 false) U.next [Fr.mk 4 zn 0 y x l] (Fr.mk 4 zn 0 y x l) (by unfold Gm.parts;omega) (aE _) (by unfold Gm.parts;omega) ai (x7.hb J) (x7.at J (x6.at G g5)) (x7.at J g6) w5 rfl rfl rfl rfl ?_ (.inr ⟨rfl,rfl,?_,?_⟩) (by omega) (by omega) (by omega)
  ·intro fr aa
   rw[aM]at aa;subst aa;refine⟨w5,?_⟩;simp only[frB,wi,aV,aU];omega
  ·rw[show([Fr.mk 4 zn 0 y x l].map Fr.cells).flatten=(Fr.mk 4 zn 0 y x l).cells from dE _];exact Ad _ _
  ·rw[show([Fr.mk 4 zn 0 y x l].map Fr.cells).flatten=(Fr.mk 4 zn 0 y x l).cells from dE _];exact Fr.Bm w5
 ·exact Bmr hl
end
end
section
def Ba7(X:List (List EV)):Prop:=∀x∈X,x.length=64/\U8 x
theorem Apd.ix{s:EV}{len:Nat}{l:List EV}(r:Apd h s q e sz len l){j:Nat}(hj:j<len)(k:EV->R):Aac sz s (I j) k=k (.ptr q (j*sz)):=by
 rcases r with r|⟨rfl,rfl,c,d⟩
 ·exact r.ix hj .i64 k
 ·unfold I;rw[Nw hj,bK]
theorem Apd.ldN{s:EV}{len n:Nat}{l x:List EV}(r:Apd h s q e sz len l)(f:0<len){o:Nat}(a:Mo l o n=some x)(k:EV->R):Ox n (.ptr q o) h k=k (.agg x):=by
 rcases r with r|⟨rfl,rfl,c,d⟩
 ·exact Cr (r.block f) rfl a
 ·exact Cr c rfl a
theorem Apd.H5{s:EV}{len:Nat}{l:List EV}(r:Apd h s q e sz len l)(k:EV->R):Ev.H5 s k=k (I len):=by
 rcases r with r|⟨rfl,rfl,c,d⟩
 ·exact r.H5 k
 ·rfl
theorem Bo2(j:Bge L){f:Fr}(a:L[i]? = some f):Mo (L.map Fr.cells).flatten (i*49) 49=some f.cells:=
 Ayq (n:=49) _ _ _ (fun x o=>by obtain⟨f,a,rfl⟩:=cA.1 o;exact Fr.Bm (j f a).1) (by rw[bB,a];rfl)
theorem A3o(hK:10000<K){c r:Ai}{v3 O:Nat}{fv:EV}(P:Bge L)(hL:L.length<=200)(l3:h0.next<=v3)(lq:h0.next<=O):
 ∀(n i:Nat) (h:Aa) (v:EV) (q:Nat) (X:List (List EV)),L.length-i<n->i<=L.length->Ext h0 h->HB h0->HB h->h.get v3=some (.cells Bi 96)->Apd h fv O 167 49 L.length (L.map Fr.cells).flatten->X.length=i->Ba7 X->Cj h v q 30 64 i X.flatten->(0<i->h0.next<=q/\q≠O/\q≠v3) ->
 Ok (P0 c r K n (.ptr v3 0) v fv (I L.length) (I i) h) fun w h'=>∃v q X,w=.tuple [v,I 0]/\Cj h' v q 30 64 X.length X.flatten/\(0<X.length->h0.next<=q)/\X.length=L.length/\Ba7 X/\Ext h0 h'/\HB h':=by
 intro n;induction n with
 | zero=>intro i h v q X hn;omega
 | succ n ih=>
  intro i h v q X hn hi U V hb W rf hX hS row J;rw[P0];simp only[I,Ac];by_cases o:i<L.length
  ·have:decide ((i:Int)<(L.length:Int))=true:=by simp;omega
   simp only[this,Ab,Ak0];have w:(L[i]).Wf:=(P _ (a9 o)).1;have fr:=(P _ (a9 o)).2;have e1:=Bo2 P (aD o);have ix:=rf.ix o;simp only[I]at ix;rw[ix,rf.ldN (by omega) e1];generalize L[i]=f at w fr e1⊢
   try simp only[Ab]
   refine Ok.mk (by simp) (Fr.Bm w) fun h2 x2 g2 _=>?_
   have t:=x2.hb hb;rw[Cw (x2.at hb W) rfl,Ak (n:=256) Qx];simp only[Ab];rw[Cr g2 rfl (Ak (Fr.Bm w))];refine(All w fr t hK).Ap ?_;rintro _ h3 ⟨rfl,x3⟩;have ad:=x3.hb t;simp only[Ab];refine Ok.mk (by simp) (by rw[Bg,Aol w]) fun h4 x4 g4 _=>?_
   have u:=x4.hb ad;have p:Ext h h4:=(x2.trans x3).trans x4;have el:(Bj (Qe f)).length=64:=by rw[Bg,Aol w]
   simp only[I,Ac,aC,aA,Ab,Ak1];rw[Cr g4 rfl (Ak el)];have E:=row.frame (h':=h4) fun y=>p.get _ (hb _ _ (row.block y)) id
   refine Nu E u rfl (by simp) el (by omega) (by omega) ?_;intro h5 G n5 c5;simp only[Alf,Ac];rw[Cq,show((i:Nat):Int)+1=((i+1:Nat):Int) by omega];have lv:=hb _ _ W;have ae:=rf.lt hb (by omega);have nx:=p.next
   have c:Ar (fun j=>0<i/\j=q) h h5:=(Ext.to p).trans c5;refine ih (i+1) h5 _ (h4.next+1) (X++[Bj (Qe f)]) (by omega) (by omega) (U.then c fun j hj a=>?_) V (c5.hb u) (c.at hb W fun y=>(J y.1).2.2 y.2.symm) (rf.frame fun _=>c.get _ ae fun y=>(J y.1).2.1 y.2.symm) (by rw[aG,hX];rfl) ?_ ?_ (fun _=>⟨by have:=U.next;omega,by omega,by omega⟩)
   ·have:=(J hj.1).1
    have:=hj.2;omega
   ·intro x hx
    rcases bJ.1 hx with y|y
    ·exact hS x y
    ·rw[aM]at y
     subst y;exact⟨el,_,Bbp w,rfl⟩
   ·rw[dX,show([Bj (Qe f)]).flatten=Bj (Qe f)from dE _];exact G
  ·have:i=L.length:=by omega
   subst this;have:decide ((L.length:Int)<(L.length:Int))=false:=by simp
   simp only[this,Ab,Ale];exact .ret ⟨v,q,X,rfl,by rw[hX];exact row,fun y=>(J (by omega)).1,hX,hS,U,hb⟩
section
variable (H:Bv disp)
include H
theorem Bag(hd:8<=d)(hK:10000<K){ll:Nat}{es:List Me}(hr:rtB g=true)(m:Rl h b ml ll g es)(hb:HB h){z:Int}(hR:snR x y z es=true)(n0:0<=zn)(n1:zn<g.D*g.Z):
 Ok (Ag TT disp K d false 184 [Vl,.agg [I x,I y,I z,.ptr b 0],I zn] h) fun w h'=>∃v q X,w=.tuple [v,I 0]/\Cj h' v q 30 64 X.length X.flatten/\(0<X.length->h.next<=q)/\(X.length:Int)=g.parts/\Ba7 X/\Ext h h'/\HB h':=by
 have s:=Oj hr;have:=s.b0;have:=s.b1;obtain⟨e,rfl⟩:∃k,d=k+1:=⟨d-1,by omega⟩;rw[Aud H (by omega)];simp only[Ata,Vl,Ab];have w1:Ext h ((h.new (.cells Bi 96)).new (.cells [I x,I y,I z,.ptr b 0] 160)):=(Ar.new _ _).Df _;have c1:((h.new (.cells Bi 96)).new (.cells [I x,I y,I z,.ptr b 0] 160)).get h.next=some (.cells Bi 96):=by rw[Aw _ (aL _)];exact Ad _ _
 have E:((h.new (.cells Bi 96)).new (.cells [I x,I y,I z,.ptr b 0] 160)).get (h.next+1)=some (.cells [I x,I y,I z,.ptr b 0] 160):=Ad _ _;have j:((h.new (.cells Bi 96)).new (.cells [I x,I y,I z,.ptr b 0] 160)).next=h.next+2:=rfl
 rw[show(h.new (.cells Bi 96)).next=h.next+1 from rfl];generalize (h.new (.cells Bi 96)).new (.cells [I x,I y,I z,.ptr b 0] 160)=h1 at w1 c1 E j⊢;have a:=w1.hb hb;rw[Cw E rfl,Ak (n:=4) rfl];simp only[Ab];refine(Bds (K:=K) H (d:=e) (by omega) (by omega) hr (m.frame (w1.get _ (hb _ _ m.map) id) (w1.get _ (hb _ _ m.row) id) (w1.get _ (hb _ _ m.live) id)) a hR n0 n1).Ap ?_;rintro _ h2 ⟨v,q,L,rfl,row,lq,J,O,G,o⟩;simp only[Ab,I,Ac,aC,aA,Ali];rw[row.H5];have hp:g.parts<=200:=by unfold Gm.parts;omega
 have p:Ext h h2:=w1.trans G;refine(A3o hK O (by omega) (aE h.next) (by have:=w1.next;omega) K 0 h2 _ 0 [] (by omega) (by omega) p hb o (G.at a c1) row rfl (fun x P=>by cases P) (Cj.nil _ _ _ _) (fun y=>absurd y (bO _))).mono ?_;rintro _ h3 ⟨U,q',X,rfl,f,t,V,hS,W,u⟩;exact⟨U,q',X,rfl,f,t,by rw[V];exact J,hS,W,u⟩
end
end
structure Dk(S T:Jp):Prop where
 n:T.dv.n=S.dv.n
 size:T.dv.size=S.dv.size
 op:T.dv.op=S.dv.op
 ev:T.ev.length+T.Pp.length=S.ev.length+S.Pp.length
theorem Dk.refl(S:Jp):Dk S S:=⟨rfl,rfl,rfl,rfl⟩
theorem Dk.trans {S T U:Jp}(a:Dk S T)(b:Dk T U):Dk S U:=⟨b.n.trans a.n,b.size.trans a.size,b.op.trans a.op,b.ev.trans a.ev⟩
def Vk(D E:Dv):Prop:=E.n=D.n/\E.size=D.size/\E.op=D.op
theorem Blc(D:Dv)(i:Int)(st:Nat):Vk D (D.fail i st):=by
 unfold Dv.fail;split<;>exact⟨rfl,rfl,rfl⟩
theorem Bh6(D:Dv)(z off:Int)(p:List EV):Vk D (D.Av4 z off p):=by
 unfold Dv.Av4;split<;>exact⟨rfl,rfl,rfl⟩
theorem Bfw(D:Dv)(e:Yb):Vk D (D.Se e):=by
 unfold Dv.Se
 repeat' split
 all_goals first|exact Bh6 _ _ _ _|exact Blc _ _ _|exact⟨rfl,rfl,rfl⟩
theorem Ba8:∀(ev:List Yb) (D:Dv) (Pp:List Yb),Dk ⟨D,ev,Pp⟩ (Awu ev D Pp)
 | [],D,Pp=>by unfold Awu;exact⟨rfl,rfl,rfl,rfl⟩
 | e::r,D,Pp=>by
  unfold Awu;split
  ·exact⟨rfl,rfl,rfl,rfl⟩
  ·have f:=Ba8 r (D.Se e) (Pp++[e])
   obtain⟨a,b,c⟩:=Bfw D e;refine⟨f.n.trans a,f.size.trans b,f.op.trans c,f.ev.trans ?_⟩;show r.length+(Pp++[e]).length=(e::r).length+Pp.length;simp only[aG,bF,fF];omega
theorem Bjt(S:Jp):Dk S S.due:=Ba8 S.ev S.dv S.Pp
theorem Ang(S:Jp)(i:Int):Dk S (S.begin i):=by
 unfold Jp.begin;split
 ·exact Bjt S
 ·exact Dk.refl S
theorem A5m {S:Jp}{D:Dv}(v:Vk S.dv D):Dk S { S with dv:=D }:=⟨v.1,v.2.1,v.2.2,rfl⟩
theorem Bfv(D:Dv)(i:Int)(x:List EV):Vk D (D.append i x).1:=by
 unfold Dv.append
 repeat' split
 all_goals exact⟨rfl,rfl,rfl⟩
theorem Bi0(D:Dv)(i:Int):Vk D (D.reset i).1:=by
 unfold Dv.reset
 repeat' split
 all_goals exact⟨rfl,rfl,rfl⟩
theorem Bcp(D:Dv)(i:Int):Vk D (D.finish i).1:=by
 unfold Dv.finish
 repeat' split
 all_goals exact⟨rfl,rfl,rfl⟩
theorem Bip(D:Dv):Vk D D.flush.1:=by
 unfold Dv.flush;split<;>exact⟨rfl,rfl,rfl⟩
theorem Bfo(S:Jp)(i:Int)(x:List EV):Dk S (S.append i x).1:=(Ang S i).trans (A5m (S:=S.begin i) (Bfv _ i x))
theorem Bhu(S:Jp)(i:Int):Dk S (S.reset i).1:=(Ang S i).trans (A5m (S:=S.begin i) (Bi0 _ i))
theorem Bdn(S:Jp)(i:Int):Dk S (S.finish i).1:=(Ang S i).trans (A5m (S:=S.begin i) (Bcp _ i))
theorem Asc(S:Jp):Dk S S.flush.1:=(Bjt S).trans (A5m (S:=S.due) (Bip _))
structure Boh(disp:Nat->Option FT)(K:Nat)(h:Aa)(m:Nat)(S:Mi)(F:Nat->Prop)(D V:Nat):Prop where
 Dr:∀k:EV->Aa->R,Ap (Ch K (.ptr m 0) h) k=k (.ptr D 0) h
 Bo6:Ch K (.ptr m 0) h.lift=some (.ptr D 0,h.lift)
 table:Ok (Ki K (.ptr m 0) h.lift) fun v h'=>v=Vl/\Ext h.lift h'
 device:∀k:EV->Aa->R,Ap (Ek K (.ptr D 0) h) k=k (.ptr V 0) h
 state:∀(i:Int) (k:EV->Aa->R),Ap (Jy K (.ptr V 0) (I i) h) k=k (I (if S.dr.dv.has i=true then(S.dr.dv.zs i.toNat).st else 4)) h
 reset:∀{d:Nat},14<=d->∀i:Int,0<(S.dr.begin i).dv.size->Ok (Ag TT disp K d false 133 [.ptr D 0,I i] h) fun v h'=>v=I (S.dr.reset i).2/\Cv h' m { S with dr:=(S.dr.reset i).1 } F/\Kf F h h'/\HB h'
 finish:∀{d:Nat},14<=d->∀i:Int,Ok (Ag TT disp K d false 189 [.ptr D 0,I i] h) fun v h'=>v=I (S.dr.finish i).2/\Cv h' m { S with dr:=(S.dr.finish i).1 } F/\Kf F h h'/\HB h'
 flush:∀{d:Nat},14<=d->Ok (Ag TT disp K d false 98 [.ptr D 0] h) fun v h'=>v=I S.dr.flush.2/\Cv h' m { S with dr:=S.dr.flush.1 } F/\Kf F h h'/\HB h'
 append:∀{d:Nat},14<=d->∀(z:Int) {x:List EV},x.length=64->U8 x->∀{i b:Nat} {s:DX} {k:EV->Aa->DX->R} {Q:EV->Aa->Prop},Aew b s=true->loose b s.nw = []->(∀w,Wz b w s.Cs=true) ->
  (∀h' s',Cv h' m { S with dr:=(S.dr.append z x).1 } F->Kf F h h'->HB h'->Ok (k (.tuple [I (S.dr.append z x).2.1,I (S.dr.append z x).2.2]) h' s') Q)->Ok (Ev.L6 i b s h (fun h=>Ag TT disp K d false 187 [.ptr D 0,I z,.agg x] h) k) Q
theorem Agx(A:Bv disp)(hK:10000<K)(M:Cv h m S F)(hb:HB h):∃D V,Boh disp K h m S F D V:=by
 obtain⟨lt,D,p,bl,ql,np,q,c,G,a⟩:=M.s;obtain⟨V,U,qc,qh,cs,hs,ms,F',b⟩:=a.drv.Ow;have due:A20 disp K S.dr:=A4q A (by omega) S.dr;have t:=a.H9.ext (h':=h.lift) fun i o g=>by rw[By];exact g
 refine⟨D,V,⟨fun k=>by rw[Akx a.H9,As],Akx t,Awj t (Dg hb),fun k=>by rw[A0h b,As],fun i k=>by rw[A3m b.dev,As],?_,?_,?_,?_⟩⟩
 ·intro d hd i hs
  refine(A3u A (by omega) hd due a.drv hb i hs).mono ?_;rintro _ h' ⟨rfl,s2,c2,f⟩;obtain⟨M2,j⟩:=M.drv hb a s2 c2;exact⟨rfl,M2,j,f⟩
 ·intro d hd i
  refine(Ap3 A hd due a.drv hb i).mono ?_;rintro _ h' ⟨rfl,s2,c2,f⟩;obtain⟨M2,j⟩:=M.drv hb a s2 c2;exact⟨rfl,M2,j,f⟩
 ·intro d hd
  refine(At0 A (by omega) hd due a.drv hb).mono ?_;rintro _ h' ⟨rfl,s2,c2,f⟩;obtain⟨M2,j⟩:=M.drv hb a s2 c2;exact⟨rfl,M2,j,f⟩
 ·intro d hd z x u hu i W s k Q b0 b1 b2 v
  refine Ok.Bgr (S:=G) b0 b1 b2 (Aqh (K:=K) A (by omega) (d:=d) hd due a.drv.lift (Dg hb) z u hu) (fun _ _ p=>p.2.2.1) ?_;rintro _ h6 E s' ⟨rfl,d6,_,n⟩ sm J _;obtain⟨O,P⟩:=M.drv hb a (d6.same sm) J;exact v E s' O P (sm.hb n)
section
def Z1(m:Nat)(cur Bt:Nat->Int):List EV:=[.ptr m 0,I (cur 0),I (Bt 0),I (cur 1),I (Bt 1),I (cur 2),I (Bt 2)]
section
variable (A:Bv disp)(hK:10000<K)(M:Cv h m S F)(hb:HB h)(hA:h.get ar=some (.cells (Z1 m cur Bt) 152))(fA:F ar){z:Int}
include A hK M hb hA
end
end
section
section
variable (A:Bv disp)(hK:10000<K){ll:Nat}{es:List Me}(M:Cv h m S F)(hb:HB h)(hA:h.get ar=some (.cells (Z1 m cur Bt) 152))(fA:F ar)(hr:rtB S.g=true)(mp:Rl h b ml ll S.g es){z:Int}(hR:snR x y z es=true)(n0:0<=zn)(n1:zn<S.g.D*S.g.Z)
include A hK M hb hA fA hr mp hR n0 n1
end
end
section
def Lo(f:Nat->Int)(i:Nat)(v:Int):Nat->Int:=fun j=>if j=i then v else f j
theorem Boj(hi:i<3):(Z1 m cur Bt)[1+i*2+1]? = some (I (Bt i)):=by
 rcases i with _|_|_|i<;>first|rfl|omega
theorem Bn8(hi:i<3):(Z1 m cur Bt)[1+i*2]? = some (I (cur i)):=by
 rcases i with _|_|_|i<;>first|rfl|omega
theorem Bcz(hi:i<3)(v:Int):(Z1 m cur Bt).set (1+i*2+1) (I v)=Z1 m cur (Lo Bt i v):=by
 rcases i with _|_|_|i<;>first|rfl|omega
theorem A88(hi:i<3)(v w:Int):L7 (Z1 m cur Bt) (1+i*2) [I v,I w]=some (Z1 m (Lo cur i v) (Lo Bt i w)):=by
 rcases i with _|_|_|i<;>first|rfl|omega
noncomputable def tgt(S:Mi)(o:Int)(i:Nat):Int × Mi:=
 if ¬o = -1/\S.Ex o=false then(o,S)else match S.ps i with
 | []=>(-1,S)
 | z::r=>(z,{ S with ps:=upd S.ps i r })
section
variable (A:Bv disp)(hK:10000<K)(M:Cv h m S F)(hb:HB h)(hA:h.get ar=some (.cells (Z1 m cur Bt) 152))(fA:F ar)(hi:i<3)
include hK M hb
theorem Biy(hi:i<S.g.D.toNat)
 (u:∀h',(S.ps i = []->Cv h' m S F->Kf F h h'->HB h'->Ok (k (.tuple [I 0,I 15]) h') Q)/\(∀z r,S.ps i=z::r->Cv h' m { S with ps:=upd S.ps i r } F->Kf F h h'->HB h'->Ok (k (.tuple [I z,I 0]) h') Q)) :
 Ok (Ap (Ci K (.ptr m 0) h) fun v h=>Ap (Od K v (I i) h) k) Q:=by
 obtain⟨lt,D,p,bl,ql,np,q,c,G,a⟩:=M.s;rw[Wb a.H9,As];have n:=a.psz.nd;subst n;refine(A4d (K:=K) a.Gl hb a.psz (by omega) i).Ap ?_;rintro _ h' ⟨c3,j,x,e,ps',rfl,J,O,alt⟩;obtain⟨E,cH⟩:=a.Ao3 hb J O c3;have wf:∀{ps'},(∀d,d<S.g.D.toNat->∀x∈ps' d,x∈S.ps d)->Mi.Wf { S with ps:=ps' }:=fun sub=>{ toWp:=⟨M.wf.sm,fun d hd x f=>M.wf.ps d hd x (sub d hd x f)⟩,op:=M.wf.op }
 rcases alt with⟨y,_⟩|⟨_,_,y,rfl,rfl,rfl⟩|⟨_,_,rfl,r,y,rfl⟩
 ·omega
 ·obtain⟨o,t⟩:=M.made (Rk.mono (H:=Out F h) ⟨fun i hi=>aK hi.1 cH.next,D,p,bl,ql,_,q,c,G,E⟩ (fun _=>.inl) (Bf.lt lt cH.next)) cH (wf fun d hd x f=>f)
  exact(u h').1 y o t j
 ·have y:S.ps i=x::r:=y
  obtain⟨o,t⟩:=M.made (Rk.mono (H:=Out F h) ⟨fun i hi=>aK hi.1 cH.next,D,p,bl,ql,_,q,c,G,E⟩ (fun _=>.inl) (Bf.lt lt cH.next)) cH (wf fun d hd P f=>by
   unfold upd at f;split at f
   ·rename_i e
    have e:d=i:=e;subst e;rw[y];exact aR _ f
   ·exact f)
  exact(u h').2 x r y o t j
include hA fA hi
theorem Bcu(O:Rng (Bt i)):Ok (Q9 K (.ptr ar 0) (I i) h) fun v h'=>v=I (tgt S (Bt i) i).1/\Cv h' m (tgt S (Bt i) i).2 F/\h'.get ar=some (.cells (Z1 m cur (Lo Bt i (-1))) 152)/\Ar (fun j=>¬F j\/j=ar) h h'/\HB h':=by
 have P:=hb _ _ hA;have sm:=M.wf.sm;have:=sm.d0;simp only[Q9,Ab];unfold I;rw[Ac7 hi]
 try simp only[Ab]
 rw[Al hA rfl (Boj hi),Ac7 hi]
 try simp only[Ab]
 refine Ok.st1 hA rfl rfl (by show _<7;omega) ?_;rw[show(Z1 m cur Bt).set (1+i*2+1) (.int .i64 (-1))=Z1 m cur (Lo Bt i (-1))from Bcz hi (-1)];have c1:Ar (fun j=>j=ar) h (h.put ar (.cells (Z1 m cur (Lo Bt i (-1))) 152)):=(Ar.refl (S:=fun j=>j=ar) h).Aq (.inl rfl) P _;have f:(h.put ar (.cells (Z1 m cur (Lo Bt i (-1))) 152)).get ar=some (.cells (Z1 m cur (Lo Bt i (-1))) 152):=Ae _ _ _;generalize h.put ar (.cells (Z1 m cur (Lo Bt i (-1))) 152)=p at c1 f⊢;have a:=c1.hb hb;have E:=M.Ahr c1 fun j hj _=>hj▸fA
 have n:Ar (fun j=>¬F j\/j=ar) h p:=c1.mono fun j hj=>.inr hj
 have take:∀p,Cv p m S F->HB p->p.get ar=some (.cells (Z1 m cur (Lo Bt i (-1))) 152)->Ar (fun j=>¬F j\/j=ar) h p->Ok (R7 K (.ptr ar 0) (.int .i64 (i:Int)) p) fun v h'=>v=I (match S.ps i with | []=>(-1,S)|z::r=>(z,{ S with ps:=upd S.ps i r }):Int × Mi).1/\Cv h' m (match S.ps i with | []=>(-1,S)|z::r=>(z,{ S with ps:=upd S.ps i r }):Int × Mi).2 F/\h'.get ar=some (.cells (Z1 m cur (Lo Bt i (-1))) 152)/\Ar (fun j=>¬F j\/j=ar) h h'/\HB h':=by
  intro p E a f n;simp only[R7,Ab];rw[Al f rfl (v:=.ptr m 0) rfl];refine Biy hK E a (i:=i) (by omega) fun h'=>⟨fun e M2 G o=>?_,fun z r e M2 G o=>?_⟩
  ·rw[e]
   simp only[Ab,I,Ac];exact .ret ⟨rfl,M2,G.at a f fA,n.trans (G.mono fun j hj=>.inl hj),o⟩
  ·rw[e]
   simp only[Ab,I,Ac,aC,aA,Aas];exact .ret ⟨rfl,M2,G.at a f fA,n.trans (G.mono fun j hj=>.inl hj),o⟩
 simp only[I,Ac];unfold tgt;by_cases t:Bt i = -1
 ·rw[aF (fun y=>y.1 t)]
  simp only[t,aC,aA,Ab,Ac,Na];exact take _ E a f n
 ·simp only[t,aN,aB,Ab,Ac,gG]
  rw[Al f rfl (v:=.ptr m 0) rfl];refine(No (K:=K) E.s a O).Ap ?_;rintro _ h2 ⟨rfl,u⟩;have o:=u.hb a;cases J:S.Ex (Bt i)with
  | true=>
   rw[aF (by simp)];simp only[Ab,Na];exact take _ ((E.ext a u).less fun j (hj:F j)=>Or.inl hj) o (u.at a f) (n.trans (Ext.to u))
  | false=>
   rw[aH rfl];simp only[Ab,Na];exact .ret ⟨rfl,(E.ext a u).less fun j (hj:F j)=>Or.inl hj,u.at a f,n.trans (Ext.to u),o⟩
end
end
structure Mk(S T:Mi):Prop where
 g:T.g=S.g
 dr:Dk S.dr T.dr
theorem Mk.refl(S:Mi):Mk S S:=⟨rfl,Dk.refl _⟩
theorem Mk.trans {T U:Mi}(a:Mk S T)(b:Mk T U):Mk S U:=⟨b.g.trans a.g,a.dr.trans b.dr⟩
theorem A7q(S:Mi)(z u:Int):Mk S (S.leave z u).1:=by
 refine⟨(A2z S z u).1,?_⟩;unfold Mi.leave;split
 ·exact Dk.refl _
 ·split
  ·exact Dk.refl _
  ·exact Bdn _ _
theorem Bkk(S:Mi):Mk S S.close.1:=by
 unfold Mi.close;exact((⟨rfl,Dk.refl _⟩:Mk S { S with a:=-1,b:=-1,u:=0 }).trans (A7q _ _ _)).trans (A7q _ _ _)
theorem Aqe(S:Mi)(z:Int):Mk S (S.Ce z).1:=by
 unfold Mi.Ce;split
 ·exact Mk.refl _
 ·split
  ·exact Mk.refl _
  ·split
   ·exact⟨rfl,Dk.refl _⟩
   ·exact(⟨rfl,Dk.refl _⟩:Mk S (S.mark z)).trans (Bkk _)
theorem Bhi(S:Mi):Mk S S.ready.1:=by
 refine⟨(Bb0 S).1,?_⟩;unfold Mi.ready;split
 ·exact Dk.refl _
 ·split
  ·exact Asc _
  ·split<;>exact Asc _
theorem A93(S:Mi)(e:En)(Ah Ay Am seq:Int):Mk S (S.put e Ah Ay Am seq).1:=by
 refine⟨(Bhw S e Ah Ay Am seq).1,?_⟩;unfold Mi.put;split
 ·exact Dk.refl _
 ·exact Bfo _ _ _
theorem Bls(S:Mi)(e:En)(Am seq:Int):Mk S (S.both e Am seq).1:=by
 unfold Mi.both;split
 ·exact A93 _ _ _ _ _ _
 ·exact(A93 _ _ _ _ _ _).trans (A93 _ _ _ _ _ _)
theorem A58(S:Mi):Mk S S.Aqf:=⟨rfl,Dk.refl _⟩
theorem Bkn(B:Mi × Int × Int):Mk B.1 (Mi.Ny B):=by
 unfold Mi.Ny;split
 ·exact A58 _
 ·exact Mk.refl _
theorem A07(e:En)(Am seq:Int):∀(n:Nat) (S:Mi),Mk S (Mi.R8 e Am seq n S).1
 | 0,S=>Mk.refl S
 | n+1,S=>by
  have a:=Bhi S;have b:=a.trans (Bls S.ready.1 e Am seq);have c:=(b.trans (Bkn _)).trans (Aqe _ (S.ready.1.both e Am seq).2.1);unfold Mi.R8;split
  ·exact a
  ·split
   ·exact b.trans (A58 _)
   ·split
    ·exact b
    ·split
     ·exact c
     ·exact c.trans (A07 e Am seq n _)
theorem A5e(S:Mi)(e:En)(Am seq:Int):Mk S (S.place e Am seq).1:=by
 unfold Mi.place;split
 ·exact Mk.refl _
 ·exact A07 _ _ _ _ _
theorem Bgb(D:Dv)(i:Int):Vk D (D.begin i):=by
 unfold Dv.begin;split<;>exact⟨rfl,rfl,rfl⟩
theorem Bmt(S:Jp)(i off:Int):Dk S (S.read i off).1:=(Ang S i).trans (A5m (S:=S.begin i) (Bgb _ i))
theorem Ba2{D:Jp}(d:Dk S.dr D):Mk S { S with dr:=D }:=⟨rfl,d⟩
theorem Aou(S:Mi)(x:Me)(Ah Ay:Int):Mk S (S.Db x Ah Ay).1:=by
 have r:=Ba2 (Bmt S.dr Ah x.off);unfold Mi.Db;split
 ·exact r
 ·split
  ·exact r
  ·split
   ·exact r.trans (Aqe _ _)
   ·exact r
theorem Blk(S:Mi)(x:Me):Mk S (S.read x).1:=by
 unfold Mi.read;split
 ·exact Mk.refl _
 ·split
  ·exact Aou _ _ _ _
  ·split<;>exact(Aou _ _ _ _).trans (Aou _ _ _ _)
theorem Bhq(S:Mi)(x:Me):Mk S (S.check x).1:=by
 unfold Mi.check;split
 ·exact Mk.refl _
 ·split
  ·exact Aou _ _ _ _
  ·have c:=(Aou S x x.Ah x.Ay).trans (Aou (S.Db x x.Ah x.Ay).1 x x.Ay x.Ah)
   unfold Mi.Azf;split
   ·exact c
   ·split<;>exact c
theorem Bg1:TT.eqs 23=some [0,0,0,0,0,0]:=by kernel_rfl
theorem Bhp(a:Int):eqB a a=true:=by rw[<-Bao,Axc];simp
theorem Bn5(g:Gm)(k:EV->R):Kk Ajg (bin TT .neq 23) (gV g) (gV g) k=k (.bool false):=by
 have a:Aqr TT 23 (gV g) (gV g)=some true:=by
  unfold Aqr gV;rw[Bg1];simp only[gL,shaped,I];rw[show Nat.beq 0 0=true from rfl];simp only[Aj,E2,Aje,show Nat.beq (P7 .i64) (P7 .i64)=true from rfl,Bhp]
 show oB k (match Aqr TT 23 (gV g) (gV g)with|some b=>some (EV.bool (Ba b false true))|none=>none)=_;rw[a];rfl
structure Bcx(S:Mi)(cur Bt:Nat->Int):Prop where
 cur:∀i,i<3->cur i = -1\/Bo S.g (cur i)=i
 Bt:∀i,i<3->Bt i = -1\/Bo S.g (Bt i)=i
section
theorem Bcx.of {T:Mi}(a:Bcx S cur Bt)(g:T.g=S.g):Bcx T cur Bt:=⟨by rw[g];exact a.cur,by rw[g];exact a.Bt⟩
section
variable (A:Bv disp)(hK:10000<K){ll:Nat}{es:List Me}(fA:F ar)(fb:F b/\F ml/\F ll/\b≠ar/\ml≠ar/\ll≠ar){z:Int}(hR:snR x y z es=true)(hi:i<3)
include A hK fA fb hR hi
end
end
section
section
variable (A:Bv disp)(hK:10000<K){ll:Nat}{es:List Me}(fA:F ar)(fb:F b/\F ml/\F ll/\b≠ar/\ml≠ar/\ll≠ar){z:Int}
include A hK fA fb
end
theorem Bo1(hi:i<3)(h:Aa):As1 K (I i) h=some (.bool true,h):=by
 simp only[As1,Avj,I,Ac];have e1:decide (0<=(i:Int))=true:=by simp
 have e2:decide ((i:Int)<3)=true:=by simp;omega
 simp only[e1,e2,Ab,Ac]
section
variable(M:Cv h m S F)(hb:HB h)(hA:h.get ar=some (.cells (Z1 m cur Bt) 152))
include M hb hA
theorem Bbe{z:Int}(f:z = -1\/Bo S.g z=i):Ok (Px K (.ptr ar 0) (I i) (I z) h) fun v h'=>v=.bool true/\Ext h h':=by
 simp only[Px,I,Ac];have sm:=M.wf.sm;by_cases a:z = -1
 ·simp only[a,aB,Ab,Ac,Un]
  exact .ret ⟨rfl,Ar.refl _⟩
 ·simp only[a,aA,Ab,Ac,Un]
  rw[Al hA rfl (v:=.ptr m 0) rfl];refine(O0 (K:=K) M hb).Ap ?_;rintro _ h2 ⟨rfl,j⟩;have hd:=f.resolve_left a;refine(Js (K:=K) sm z (Zt sm (by omega)) h2).Ap ?_;rintro _ o ⟨rfl,n⟩;simp only[I,Ac,hd,aB,Ab];exact .ret ⟨rfl,j.trans n⟩
theorem Boz(fA:F ar)(hi:i<3){v w:Int}(E:v = -1\/Bo S.g v=i)(hw:w = -1\/Bo S.g w=i)(G:¬v=w):Ok (Rx K (.ptr ar 0) (I i) (I v) (I w) h) fun r h'=>r=I 0/\Cv h' m S F/\h'.get ar=some (.cells (Z1 m (Lo cur i v) (Lo Bt i w)) 152)/\Ar (fun j=>j=ar) h h'/\HB h':=by
 simp only[Rx,Bo1 hi,Ab,Ac];refine(Bbe (K:=K) M hb hA E).Ap ?_;rintro _ h2 ⟨rfl,o⟩;have a:=o.hb hb;have M2:=(M.ext hb o).less fun j (hj:F j)=>Or.inl hj
 simp only[Ab,Ac,Agn];refine(Bbe (K:=K) M2 a (o.at hb hA) hw).Ap ?_;rintro _ p ⟨rfl,t⟩;have f:=t.hb a;have x:Ext h p:=o.trans t;have J:=(M.ext hb x).less fun j (hj:F j)=>Or.inl hj
 have n:=x.at hb hA;have u:=f _ _ n;simp only[Ab,Ac,Ahd,I,G,aA,Ag6,Ag2,Agv,Agi];rw[Ax (l:=[I v,I w]) rfl]
 try simp only[Ab]
 rw[Ac7 hi];refine Ok.st (Z1 m (Lo cur i v) (Lo Bt i w)) n rfl rfl (A88 hi v w) ?_;have c:Ar (fun j=>j=ar) p (p.put ar (.cells (Z1 m (Lo cur i v) (Lo Bt i w)) 152)):=(Ar.refl (S:=fun j=>j=ar) p).Aq (.inl rfl) u _;exact .ret ⟨rfl,J.Ahr c fun j hj _=>hj▸fA,Ae _ _ _,(Ext.to x).trans c,f.put u _⟩
end
end
structure Co where
 S:Mi
 cur:Nat->Int
 Bt:Nat->Int
 es:List Me
 gen:Int
 ep:Int
 nx:Int
 st:Bool
variable {X:Co}
structure Cb where
 c:Nat
 ar:Nat
 m:Nat
 b:Nat
 ml:Nat
 ll:Nat
variable {B:Cb}
def Cb.own(B:Cb)(i:Nat):Prop:=i=B.c\/i=B.ar\/i=B.b\/i=B.ml\/i=B.ll
def Cb.fr(B:Cb)(F:Nat->Prop)(i:Nat):Prop:=F i\/B.own i
def Co.cells(B:Cb)(X:Co):List EV:=[.ptr B.m 0,.ptr B.ar 0,.ptr B.b 0,I X.gen,I X.ep,I X.nx,.bool X.st]
structure Co.Wf(X:Co):Prop where
 rt:rtB X.S.g=true
 an:Bcx X.S X.cur X.Bt
 sz:0<X.S.dr.dv.size
structure Dw(h:Aa)(B:Cb)(X:Co)(F:Nat->Prop):Prop where
 M:Cv h B.m X.S (B.fr F)
 core:h.get B.c=some (.cells (X.cells B) 109)
 ar:h.get B.ar=some (.cells (Z1 B.m X.cur X.Bt) 152)
 map:Rl h B.b B.ml B.ll X.S.g X.es
 wf:X.Wf
 out:∀i,F i->¬B.own i
 hb:HB h
def Ck(X Y:Co):Prop:=Mk X.S Y.S
theorem Ck.refl(X:Co):Ck X X:=Mk.refl _
theorem Ck.trans {Y Z:Co}(a:Ck X Y)(b:Ck Y Z):Ck X Z:=Mk.trans a b
structure Ey(h h':Aa)(B:Cb)(X:Co)(F:Nat->Prop)(Y:Co):Prop where
 C:Dw h' B Y F
 k:Kf F h h'
 ck:Ck X Y
section
variable {h':Aa}{Y:Co}{F':Nat->Prop}
theorem Dw.ne(C:Dw h B X F):B.c≠B.ar/\B.c≠B.b/\B.c≠B.ml/\B.c≠B.ll/\B.ar≠B.b/\B.ar≠B.ml/\B.ar≠B.ll/\B.b≠B.ml/\B.b≠B.ll/\B.ml≠B.ll:=
 ⟨Bb C.core C.ar (by simp),Bb C.core C.map.map (by simp),Bb C.core C.map.row (by simp),Bb C.core C.map.live (by simp),Bb C.ar C.map.map (by simp),Bb C.ar C.map.row (by simp),Bb C.ar C.map.live (by simp),
  Bb C.map.map C.map.row (by simp),Bb C.map.map C.map.live (by simp),Bb C.map.row C.map.live (by simp)⟩
theorem Dw.sm(C:Dw h B X F):Sm X.S.g:=C.M.wf.sm
theorem Ey.refl(C:Dw h B X F):Ey h h B X F X:=⟨C,Ar.refl _,Ck.refl _⟩
theorem Ey.trans {f h2 j:Aa}{Y Z:Co}(a:Ey f h2 B X F Y)(b:Ey h2 j B Y F Z):Ey f j B X F Z:=⟨b.C,a.k.trans b.k,a.ck.trans b.ck⟩
theorem Ey.hb(a:Ey h h' B X F Y):HB h':=a.C.hb
theorem Cv.kp(M:Cv h m S F)(k:Kp T h h'):Cv h' m S (Bf F h h'):=by
 refine⟨(M.s.frame k.chg.next fun i hi=>k.same i hi.1).mono (fun i hi=>⟨aK hi.1 k.chg.next,fun y=>?_⟩) fun i hi=>hi.1,Bf.lt M.lt k.chg.next,M.wf⟩;rcases y with y|y
 ·exact hi.2 y
 ·have:=hi.1;omega
theorem Dw.kp(C:Dw h B X F)(k:Kp T h h'):Dw h' B X (Bf F h h'):=by
 refine⟨(C.M.kp k).less fun i hi=>?_,k.at C.hb C.core,k.at C.hb C.ar,C.map.ext fun i o g=>k.at C.hb g,C.wf,fun i hi=>?_,k.chg.hb C.hb⟩
 ·rcases hi with(hi|hi)|hi
  ·exact .inl (.inl hi)
  ·exact .inr hi
  ·exact .inl (.inr hi)
 ·rcases hi with hi|hi
  ·exact C.out i hi
  ·intro y
   have a:=C.hb _ _ C.core;have f:=C.hb _ _ C.ar;have j:=C.hb _ _ C.map.map;have n:=C.hb _ _ C.map.row;have p:=C.hb _ _ C.map.live;rcases y with y|y|y|y|y<;>omega
theorem Dw.less(C:Dw h B X F)(s:∀i,F' i->F i):Dw h B X F':=
 ⟨C.M.less fun i hi=>hi.imp (s i) id,C.core,C.ar,C.map,C.wf,fun i hi=>C.out i (s i hi),C.hb⟩
theorem Dw.ext(C:Dw h B X F)(x:Ext h h'):Dw h' B X (Bf F h h'):=C.kp (T:=fun _=>False) (Ext.kp x)
theorem Dw.toE(C:Dw h B X F)(x:Ext h h'):Ey h h' B X F X:=⟨(C.ext x).less fun _=>.inl,Ext.kf x,Ck.refl _⟩
theorem Dw.toK(C:Dw h B X F)(k:Kp T h h')(t:∀i,T i->¬F i):Ey h h' B X F X:=⟨(C.kp k).less fun _=>.inl,k.chg.mono t,Ck.refl _⟩
theorem Co.Wf.H9(w:X.Wf)(mk:Mk X.S S'):({ X with S:=S' }:Co).Wf:=⟨by show rtB S'.g=true;rw[mk.g];exact w.rt,w.an.of mk.g,by show 0<S'.dr.dv.size;rw[mk.dr.size];exact w.sz⟩
theorem Dw.H9(C:Dw h B X F)(f:Cv h' B.m S' (B.fr F))(k:Kf (B.fr F) h h')(a:HB h')(mk:Mk X.S S'):Ey h h' B X F { X with S:=S' }:=by
 have g:S'.g=X.S.g:=mk.g;exact⟨⟨f,k.at C.hb C.core (.inr (.inl rfl)),k.at C.hb C.ar (.inr (.inr (.inl rfl))),by
  show Rl h' B.b B.ml B.ll S'.g X.es;rw[g];exact C.map.frame (k.get _ (C.hb _ _ C.map.map) fun y=>y (.inr (.inr (.inr (.inl rfl))))) (k.get _ (C.hb _ _ C.map.row) fun y=>y (.inr (.inr (.inr (.inr (.inl rfl)))))) (k.get _ (C.hb _ _ C.map.live) fun y=>y (.inr (.inr (.inr (.inr (.inr rfl)))))),
  C.wf.H9 mk,C.out,a⟩,k.less fun _=>.inl,mk⟩
theorem Dw.Bp5(C:Dw h B X F){a f:Nat->Int}(o:Cv h' B.m S' (B.fr F))(hA:h'.get B.ar=some (.cells (Z1 B.m a f) 152))(c:Ar (fun j=>¬B.fr F j\/j=B.ar) h h')(n:HB h')(mk:Mk X.S S')(an:Bcx S' a f):
 Ey h h' B X F { X with S:=S',cur:=a,Bt:=f }:=by
 have g:S'.g=X.S.g:=mk.g;obtain⟨n1,G,n3,n4,p,t,u,J,O,v⟩:=C.ne;have kp:∀i,B.own i->i≠B.ar->¬(¬B.fr F i\/i=B.ar):=fun i hi E y=>y.elim (fun y=>y (.inr hi)) E
 exact⟨⟨o,c.at C.hb C.core (kp _ (.inl rfl) n1),hA,by
  show Rl h' B.b B.ml B.ll S'.g X.es;rw[g];exact C.map.frame (c.get _ (C.hb _ _ C.map.map) (kp _ (.inr (.inr (.inl rfl))) p.symm)) (c.get _ (C.hb _ _ C.map.row) (kp _ (.inr (.inr (.inr (.inl rfl)))) t.symm)) (c.get _ (C.hb _ _ C.map.live) (kp _ (.inr (.inr (.inr (.inr rfl)))) u.symm)),
  ⟨by show rtB S'.g=true;rw[g];exact C.wf.rt,an,by show 0<S'.dr.dv.size;rw[mk.dr.size];exact C.wf.sz⟩,C.out,n⟩,
  c.mono fun i hi y=>hi.elim (fun w=>w (.inl y)) fun w=>C.out i y (w▸.inr (.inl rfl)),mk⟩
theorem Dw.Bok(C:Dw h B X F){a:List Me}(mp:Rl h' B.b B.ml B.ll X.S.g a)(c:Ar (fun i=>i=B.ml\/i=B.ll) h h')(f:HB h'):Ey h h' B X F { X with es:=a }:=by
 obtain⟨n1,t,n3,n4,u,n,o,v,E,p⟩:=C.ne;have j:∀i,i=B.ml\/i=B.ll->B.own i:=fun i hi=>hi.elim (fun y=>.inr (.inr (.inr (.inl y)))) fun y=>.inr (.inr (.inr (.inr y)))
 exact⟨⟨C.M.Ahr c fun i hi _=>.inr (j i hi),c.at C.hb C.core fun y=>y.elim n3 n4,c.at C.hb C.ar fun y=>y.elim n o,mp,⟨C.wf.rt,C.wf.an,C.wf.sz⟩,C.out,f⟩,c.mono fun i hi y=>C.out i y (j i hi),Mk.refl _⟩
theorem Dw.Boo(C:Dw h B X F)(g e n:Int)(s:Bool):Ey h (h.put B.c (.cells (({ X with gen:=g,ep:=e,nx:=n,st:=s }:Co).cells B) 109)) B X F { X with gen:=g,ep:=e,nx:=n,st:=s }:=by
 obtain⟨n1,a,n3,n4,j,o,p,t,u,f⟩:=C.ne;have l:=C.hb _ _ C.core;have c:Ar (fun i=>i=B.c) h (h.put B.c (.cells (({ X with gen:=g,ep:=e,nx:=n,st:=s }:Co).cells B) 109)):=(Ar.refl (S:=fun i=>i=B.c) h).Aq (.inl rfl) l _;exact⟨⟨C.M.Ahr c fun i hi _=>.inr (.inl hi),Ae _ _ _,by rw[Af _ n1];exact C.ar,C.map.frame (Af _ a) (Af _ n3) (Af _ n4),⟨C.wf.rt,C.wf.an,C.wf.sz⟩,C.out,C.hb.put l _⟩,c.mono fun i hi y=>C.out i y (.inl hi),Mk.refl _⟩
theorem Dw.Ahr(C:Dw h B X F)(c:Ar T h h')(t:∀i,T i->i<h.next->F i)(a:HB h'):Dw h' B X F:=by
 have no:∀i,B.own i->i<h.next->¬T i:=fun i hi f y=>C.out i (t i y f) hi
 have l1:=C.hb _ _ C.core;have p:=C.hb _ _ C.ar;have j:=C.hb _ _ C.map.map;have n:=C.hb _ _ C.map.row;have o:=C.hb _ _ C.map.live;exact⟨C.M.Ahr c fun i hi f=>.inl (t i hi f),c.at C.hb C.core (no _ (.inl rfl) l1),c.at C.hb C.ar (no _ (.inr (.inl rfl)) p),
  C.map.frame (c.get _ j (no _ (.inr (.inr (.inl rfl))) j)) (c.get _ n (no _ (.inr (.inr (.inr (.inl rfl)))) n)) (c.get _ o (no _ (.inr (.inr (.inr (.inr rfl)))) o)),C.wf,C.out,a⟩
end
section
variable(C:Dw h B X F)
include C
theorem Dw.ldM(k:EV->R):Ez (.ptr B.c 0) h k=k (.ptr B.m 0):=Al C.core rfl rfl
theorem Dw.Jb(k:EV->R):Ez (.ptr B.c 1) h k=k (.ptr B.ar 0):=Al C.core rfl rfl
theorem Dw.ldB(k:EV->R):Ez (.ptr B.c 2) h k=k (.ptr B.b 0):=Al C.core rfl rfl
theorem Dw.ldG(k:EV->R):Ez (.ptr B.c 3) h k=k (I X.gen):=Al C.core rfl rfl
theorem Dw.ldE(k:EV->R):Ez (.ptr B.c 4) h k=k (I X.ep):=Al C.core rfl rfl
theorem Dw.ldN(k:EV->R):Ez (.ptr B.c 5) h k=k (I X.nx):=Al C.core rfl rfl
theorem Dw.ldS(k:EV->R):Ez (.ptr B.c 6) h k=k (.bool X.st):=Al C.core rfl rfl
end
end Go.Ev
