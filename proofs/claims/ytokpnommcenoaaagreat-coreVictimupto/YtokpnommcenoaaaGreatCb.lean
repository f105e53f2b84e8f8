import Derived.Test.YtokpnommcenoaaaGreatCa
import Derived.Test.YtokpnommcenoaaaGreatVb
set_option linter.all false
namespace Go.Ev
open Go.Proofs
set_option maxRecDepth 100000
variable {h h0 h1 h2:Ab}{K b d i m q t ar ml sz:Nat}{e:TypeId}{k:EV->Ab->R}{Q:EV->Ab->Prop}{x y zn:Int}{es:List Me}{g:Gm}{L:List Fr}{S S':Mi}{F T F':Nat->Prop}{Cr cur:Nat->Int}{disp:Nat->Option FT}
section
def Apz(h:Ab)(s:EV)(q:Nat)(e:TypeId)(sz len:Nat)(l:List EV):Prop:=
 Ci h s q e sz len l\/(len=1/\s=.slice q 0 1 1 false/\h.get q=some (.cells l e)/\l.length=sz)
theorem Apz.frame {h':Ab}{s:EV}{len:Nat}{l:List EV}(r:Apz h s q e sz len l)(g:0<len->h'.get q=h.get q):Apz h' s q e sz len l:=by
 rcases r with r|⟨a,b,c,d⟩
 ·exact .inl (r.frame g)
 ·exact .inr ⟨a,b,by rw[g (by omega)];exact c,d⟩
theorem Apz.lt{s:EV}{len:Nat}{l:List EV}(r:Apz h s q e sz len l)(hb:HB h)(f:0<len):q<h.next:=by
 rcases r with r|⟨a,b,c,d⟩
 ·exact hb _ _ (r.block f)
 ·exact hb _ _ c
theorem A98{s v:EV}{len:Nat}{l z:List EV}(r:Apz h s q e sz len l)(hb:HB h)(f:v.plain=true)(j:z.length=sz)(a:v.cells.length=sz)(hs:sz<=65536)(p:len<=65535)
 (n:∀h',Ci h' (.slice (h.next+1) 0 (len+1) (len+1) true) (h.next+1) e sz (len+1) (l++v.cells)->h'.next=h.next+2->Ar (fun i=>0<len/\i=q) h h'->Ok (k (.slice (h.next+1) 0 (len+1) (len+1) true) h') Q) :
 Ok (Ap (Cd z e sz 1 [(0,v)] h) fun w h=>Ap (Em e sz s w h) k) Q:=by
 rcases r with r|⟨rfl,rfl,g,ll⟩
 ·exact N9 r hb f j a hs (by omega) n
 ·rw[V8 f j a hs,Au]
  have o:(h.new (.cells v.cells e)).get q=some (.cells l e):=by rw[Ay _ (hb _ _ g)];exact g
  have c1:=Xf (sz:=sz) (Ac h (.cells v.cells e)) a;have c2:=Xf (sz:=sz) o ll;have e1:Em e sz (.slice q 0 1 1 false) (.slice h.next 0 1 1 false) (h.new (.cells v.cells e))=some (.slice (h.next+1) 0 2 2 true,(h.new (.cells v.cells e)).new (.vec (l++v.cells) e sz)):=by
   unfold Em;simp only[lenOf,G8,c1,c2,Aum];rfl
  rw[e1,Au];refine n _ (.inr ⟨by omega,rfl,Ac _ _,by rw[aF,ll,a];omega⟩) rfl ((Ar.new _ _).Di _)
def Bgy(L:List Fr):Prop:=∀f∈L,f.Wf/\frB f=true
theorem A59(a b c d e:EV){x y:List EV}(h:x.length=y.length):Mf ([a,b,c,d,e]++x) 5 y=some ([a,b,c,d,e]++y):=by
 rw[Alb (by rw[aF,h];exact aC _)];have:([a,b,c,d,e]++x).drop (5+y.length) = []:=cr (by rw[aF,h];exact aC _);rw[this,cR];rfl
theorem Blp{l:List Nat}(a:l.length=44):Aaq (D5 [(0,1),(1,1),(2,1),(3,1),(4,1),(5,44)]) [(0,EV.int .i64 4),(1,I zn),(3,I y),(4,I x),(5,.agg (Bc l))] (List.replicate 5 (EV.int .i64 0)++List.replicate 44 (EV.int .u8 0))=some (Fr.mk 4 zn 0 y x l).cells:=by
 show Bb (Nat.beq (F9 (Bc l)) 44) (oB (fun z=>some z) (Mf ([I 4,I zn,I 0,I y,I x]++List.replicate 44 (.int .u8 0)) 5 (Bc l))) none=_;rw[Bf,Bi,a,A59 _ _ _ _ _ (by rw[Bi,a,bT])];rfl
theorem Bnh {z:Int}(h:snR x y z es=true):(1<=x/\x<=281474976710655)/\(1<=y/\y<=4294967295)/\1<=z/\z<=281474976710655:=by
 unfold snR at h;simp only[bI,bE]at h;exact⟨h.1,h.2.1,h.2.2.1.1,h.2.2.1.2⟩
section
variable (H:Ca disp)
theorem A7j(hK:1000<K){c r:Ai}{ll f:Nat}(s:Sm g)(m:Q0 h0 b ml ll g es)(o:HB h0){z:Int}(x0:1<=x)(x1:x<=281474976710655)(y0:1<=y)(y1:y<=4294967295)(z0:0<=zn)(z1:zn<=65535)(lt:h0.next<=t)(lf:h0.next<=f)(tf:t≠f):
 ∀(n i:Nat) (h:Ab) (v:EV) (q:Nat) (L:List Fr) (F:Fr),g.parts.toNat-i<n->1<=i->i<=g.parts->Ext h0 h->HB h->h.get t=some (.cells [I x,I y,I z,.ptr b 0] 163)->h.get f=some (.cells F.cells 247)->F.Wf->F.An=zn->F.Av=y->F.seq=x->L.length=i->Bgy L->Apz h v q 247 49 i (L.map Fr.cells).flatten->h0.next<=q->q≠t->q≠f ->
 Ok (So c r K n (.ptr t 0) (.ptr f 0) v (I i) h) fun w h'=>∃v q L,w=.tuple [v,I 0]/\Apz h' v q 247 49 L.length (L.map Fr.cells).flatten/\h0.next<=q/\(L.length:Int)=g.parts/\Bgy L/\Ext h0 h'/\HB h':=by
 have:=s.b0;have:=s.b1;have hp:2<=g.parts/\g.parts<=200:=by unfold Gm.parts;omega
 intro n;induction n with
 | zero=>intro i h v q L F hn;omega
 | succ n ih=>
  intro i h v q L F hn i1 hi V hb gt gf w fz fe fs hL hI row lq qt qf;rw[So];simp only[Aa];rw[Aj gt rfl (v:=.ptr b 0) rfl];have mh:=m.frame (V.get _ (o _ _ m.map) id) (V.get _ (o _ _ m.row) id) (V.get _ (o _ _ m.live) id);refine(Af4 (K:=K) mh hb).Ap ?_;rintro _ h2 ⟨rfl,x2,bp⟩;rw[Aqq s,Au];have P:Ext h (h2.new (.cells (gL g) 23)):=x2.Di _;generalize h2.new (.cells (gL g) 23)=h3 at P⊢;have u:=P.hb hb;have W:=P.at hb gt;have ao:=P.at hb gf;have E:=row.frame (h':=h3) fun y=>P.get _ (row.lt hb y) id
  simp only[I,Ad];by_cases aa:(i:Int)<g.parts
  ·simp only[aa,aB,Aa,Anf]
   rw[C8 W rfl,Am (n:=4) rfl];simp only[Aa];have G:Ext h0 h3:=V.trans P;refine(A2n hK s (m.frame (G.get _ (o _ _ m.map) id) (G.get _ (o _ _ m.row) id) (G.get _ (o _ _ m.live) id)) u (by omega) (by omega)).Ap ?_;rintro _ h4 ⟨⟨l,rfl,hl,hu⟩,x4,au⟩;have ab:=x4.at u ao;have l4:=au _ _ ab;have ax:Ext h0 h4:=G.trans x4;have ad:=E.frame (h':=h4) fun y=>x4.get _ (E.lt u y) id
   have ay:=x4.at u W;refine Ok.Zl ab rfl rfl (by rw[Fr.Bk w];decide) ?_;refine Ok.Zl (Ae _ _ _) rfl rfl (by rw[bR,Fr.Bk w];decide) ?_;have e5:((F.cells.set 0 (.int .i64 5)).set 2 (.int .i64 (i:Int))) = [I 5,I F.An,I i,I F.Av,I F.seq]++Bc F.body:=rfl;rw[e5];refine Ok.st ([I 5,I F.An,I i,I F.Av,I F.seq]++Bc l) (Ae _ _ _) rfl (by show F9 (Bc l)=44;rw[Bf,Bi,hl]) (A59 (y:=Bc l) _ _ _ _ _ (by rw[Bi,Bi,w.len,hl])) ?_;have x5:Ext h0 (((h4.put f (.cells (F.cells.set 0 (.int .i64 5)) 247)).put f (.cells ([I 5,I F.An,I i,I F.Av,I F.seq]++Bc F.body) 247)).put f (.cells ([I 5,I F.An,I i,I F.Av,I F.seq]++Bc l) 247)):=((ax.Ak (.inr lf) l4 _).Ak (.inr lf) l4 _).Ak (.inr lf) l4 _;have J:(((h4.put f (.cells (F.cells.set 0 (.int .i64 5)) 247)).put f (.cells ([I 5,I F.An,I i,I F.Av,I F.seq]++Bc F.body) 247)).put f (.cells ([I 5,I F.An,I i,I F.Av,I F.seq]++Bc l) 247)).get f=some (.cells (Fr.mk 5 F.An i F.Av F.seq l).cells 247):=Ae _ _ _;have U:(((h4.put f (.cells (F.cells.set 0 (.int .i64 5)) 247)).put f (.cells ([I 5,I F.An,I i,I F.Av,I F.seq]++Bc F.body) 247)).put f (.cells ([I 5,I F.An,I i,I F.Av,I F.seq]++Bc l) 247)).get t=some (.cells [I x,I y,I z,.ptr b 0] 163):=by
    rw[Af _ (cN tf),Af _ (cN tf),Af _ (cN tf)];exact ay
   have O:=ad.frame (h':=(((h4.put f (.cells (F.cells.set 0 (.int .i64 5)) 247)).put f (.cells ([I 5,I F.An,I i,I F.Av,I F.seq]++Bc F.body) 247)).put f (.cells ([I 5,I F.An,I i,I F.Av,I F.seq]++Bc l) 247))) fun y=>by
    rw[Af _ (cN qf),Af _ (cN qf),Af _ (cN qf)]
   generalize (((h4.put f (.cells (F.cells.set 0 (.int .i64 5)) 247)).put f (.cells ([I 5,I F.An,I i,I F.Av,I F.seq]++Bc F.body) 247)).put f (.cells ([I 5,I F.An,I i,I F.Av,I F.seq]++Bc l) 247))=h5 at x5 J U O⊢;have p:=x5.hb o;have w5:(Fr.mk 5 F.An i F.Av F.seq l).Wf:=⟨hl,hu⟩;rw[Dj J rfl (Am (Fr.Bk w5))];refine A98 O p rfl rfl (Fr.Bk w5) (by omega) (by omega) ?_;intro h6 ae n6 c6;simp only[Apb,I,Ad];rw[Cn (by omega) (by omega),show((i:Nat):Int)+1=((i+1:Nat):Int) by omega];have t5:=p _ _ U;have f5:=p _ _ J;refine ih (i+1) h6 _ (h5.next+1) (L++[Fr.mk 5 F.An i F.Av F.seq l]) _ (by omega) (by omega) (by omega) (x5.then c6 fun j hj a=>by omega) (c6.hb p) (c6.at p U fun y=>qt y.2.symm) (c6.at p J fun y=>qf y.2.symm) w5 fz fe fs (by rw[aF,hL];rfl) ?_ ?_ (by have:=x5.next;omega) (by omega) (by omega)
   ·intro fr az
    rcases bL.1 az with y|y
    ·exact hI fr y
    ·rw[aO]at y
     subst y;refine⟨w5,?_⟩;simp only[frB,wi,bI,bE,fz,fe,fs];omega
   ·rw[cB,cy,show([Fr.mk 5 F.An i F.Av F.seq l].map Fr.cells).flatten=(Fr.mk 5 F.An i F.Av F.seq l).cells from cR _];exact .inl ae
  ·simp only[aa,aA,Aa,An4]
   exact .ret ⟨v,q,L,rfl,by rw[hL];exact E,lq,by rw[hL];omega,hI,V.trans P,u⟩
include H
theorem Bfy(hd:7<=d)(hK:1000<K){ll:Nat}(hr:rtB g=true)(m:Q0 h b ml ll g es)(hb:HB h){z:Int}(hR:snR x y z es=true)(n0:0<=zn)(n1:zn<g.D*g.Z):
 Ok (Ag TT disp K d false 296 [.agg [I x,I y,I z,.ptr b 0],I zn] h) fun w h'=>∃v q L,w=.tuple [v,I 0]/\Apz h' v q 247 49 L.length (L.map Fr.cells).flatten/\h.next<=q/\(L.length:Int)=g.parts/\Bgy L/\Ext h h'/\HB h':=by
 have s:=Zf hr;obtain⟨⟨x0,x1⟩,⟨y0,y1⟩,z0,z1⟩:=Bnh hR;have:=s.b0;have:=s.b1;have:=s.s0;have:=s.d0;have:=s.d1;have:=s.z0;have:=s.z1;obtain⟨m0,m1⟩:=N1 (a:=g.D) (b:=g.Z) (A:=8) (B:=64) (by omega) (by omega) (by omega) (by omega);obtain⟨e,rfl⟩:∃k,d=k+1:=⟨d-1,by omega⟩;rw[Aw1 H (by omega)];simp only[Awr,Aa];have w1:Ext h (h.new (.cells [I x,I y,I z,.ptr b 0] 163)):=Ar.new _ _;have g1:(h.new (.cells [I x,I y,I z,.ptr b 0] 163)).get h.next=some (.cells [I x,I y,I z,.ptr b 0] 163):=Ac _ _
 have aj:(h.new (.cells [I x,I y,I z,.ptr b 0] 163)).next=h.next+1:=rfl
 generalize h.new (.cells [I x,I y,I z,.ptr b 0] 163)=h1 at w1 g1 aj⊢;have u:=w1.hb hb;have E:=m.frame (w1.get _ (hb _ _ m.map) id) (w1.get _ (hb _ _ m.row) id) (w1.get _ (hb _ _ m.live) id);rw[C8 g1 rfl,Am (n:=4) rfl];simp only[Aa];refine(Aqw (K:=K) H (d:=e) (by omega) hK s E u x y z).Ap ?_;rw[hR];rintro _ h2 ⟨rfl,V,G⟩;have g2:=V.at u g1;simp only[Aa,Ad];rw[Aj g2 rfl (v:=.ptr b 0) rfl];have m2:=E.frame (V.get _ (u _ _ E.map) id) (V.get _ (u _ _ E.row) id) (V.get _ (u _ _ E.live) id);refine(Af4 (K:=K) m2 G).Ap ?_;rintro _ h3 ⟨rfl,x3,ab⟩;refine(Aio (K:=K) (g:=g) ab zn 0).Ap ?_;rintro _ h4 ⟨rfl,x4⟩;have hh:Ae6 g zn 0=true:=by
  simp only[Ae6,hr,wi,aZ,bI,bE];omega
 rw[hh];have J:=x4.hb ab;simp only[Aa,Ao5,Aor];have j:Ext h2 h4:=x3.trans x4;have g4:=j.at G g2;have l4:=J _ _ g4;have m4:=m2.frame (j.get _ (G _ _ m2.map) id) (j.get _ (G _ _ m2.row) id) (j.get _ (G _ _ m2.live) id);rw[Ah l4 (by kernel_rfl),Aj g4 rfl (v:=I y) rfl]
 try simp only[Aa,Aw]
 rw[Ah l4 (by kernel_rfl),Aj g4 rfl (v:=I x) rfl]
 try simp only[Aa,Aw]
 rw[Ah l4 (by kernel_rfl),C8 g4 rfl,Am (n:=4) rfl]
 try simp only[Aa,Aw]
 refine Ok.Ds (by kernel_rfl) (by kernel_rfl) (P:=fun v h'=>Arw v/\Ext h4.lift h') ((A4n hK s (m4.frame (By _ _) (By _ _) (By _ _)) (Du J) (by omega) (by omega)).mono fun _ _ a=>⟨a.1,a.2.1⟩) (fun _ _ p=>p.2) ?_;rintro _ bj o ⟨⟨l,rfl,hl,hu⟩,_⟩ _ x5;have O:=x5.hb J;have g5:=x5.at J g4;have w5:(Fr.mk 4 zn 0 y x l).Wf:=⟨hl,hu⟩;rw[Az (l:=(Fr.mk 4 zn 0 y x l).cells) ?_]
 ·simp only[Aa,Aw]
  rw[Kh (by kernel_rfl)];refine Ok.stW (xs:=(Fr.mk 4 zn 0 y x l).cells) (Ac _ _) (by simp) (Fr.Bk w5) ?_;have x6:Ext o ((o.new (.cells (List.replicate 5 (EV.int .i64 0)++List.replicate 44 (.int .u8 0)) 247)).put o.next (.cells (Fr.mk 4 zn 0 y x l).cells 247)):=(Ar.new o _:Ext _ _).Ak (.inr (aC _)) (aE _) _;have g6:((o.new (.cells (List.replicate 5 (EV.int .i64 0)++List.replicate 44 (.int .u8 0)) 247)).put o.next (.cells (Fr.mk 4 zn 0 y x l).cells 247)).get o.next=some (.cells (Fr.mk 4 zn 0 y x l).cells 247):=Ae _ _ _
  have n6:((o.new (.cells (List.replicate 5 (EV.int .i64 0)++List.replicate 44 (.int .u8 0)) 247)).put o.next (.cells (Fr.mk 4 zn 0 y x l).cells 247)).next=o.next+1:=rfl
  generalize (o.new (.cells (List.replicate 5 (EV.int .i64 0)++List.replicate 44 (.int .u8 0)) 247)).put o.next (.cells (Fr.mk 4 zn 0 y x l).cells 247)=W at x6 g6 n6⊢
  have U:=x6.hb O;rw[C8 g6 rfl,Am (Fr.Bk w5)];simp only[Aa];rw[V8 (v:=.agg (Fr.mk 4 zn 0 y x l).cells) rfl (by simp) (Fr.Bk w5) (by omega),Au];have x7:Ext W (W.new (.cells (Fr.mk 4 zn 0 y x l).cells 247)):=Ar.new _ _;have aq:Ext h W:=(((w1.trans V).trans j).trans x5).trans x6;have au:Ext h (W.new (.cells (Fr.mk 4 zn 0 y x l).cells 247)):=aq.trans x7;have k1:=(w1.trans V).next
  have k2:=j.next
  have k3:=x5.next
  have lg:=O _ _ g5;refine A7j hK s m hb x0 x1 y0 y1 n0 (by omega) (aC _) (f:=o.next) (by omega) (by omega) K 1 _ (.slice W.next 0 1 1 false) W.next [Fr.mk 4 zn 0 y x l] (Fr.mk 4 zn 0 y x l) (by unfold Gm.parts;omega) (aC _) (by unfold Gm.parts;omega) au (x7.hb U) (x7.at U (x6.at O g5)) (x7.at U g6) w5 rfl rfl rfl rfl ?_ (.inr ⟨rfl,rfl,?_,?_⟩) (by omega) (by omega) (by omega)
  ·intro fr ae
   rw[aO]at ae;subst ae;refine⟨w5,?_⟩;simp only[frB,wi,bI,bE];omega
  ·rw[show([Fr.mk 4 zn 0 y x l].map Fr.cells).flatten=(Fr.mk 4 zn 0 y x l).cells from cR _];exact Ac _ _
  ·rw[show([Fr.mk 4 zn 0 y x l].map Fr.cells).flatten=(Fr.mk 4 zn 0 y x l).cells from cR _];exact Fr.Bk w5
 ·exact Blp hl
end
end
section
def Ba5(X:List (List EV)):Prop:=∀x∈X,x.length=64/\U8 x
theorem Apz.ix{s:EV}{len:Nat}{l:List EV}(r:Apz h s q e sz len l){j:Nat}(hj:j<len)(k:EV->R):X8 sz s (I j) k=k (.ptr q (j*sz)):=by
 rcases r with r|⟨rfl,rfl,c,d⟩
 ·exact r.ix hj .i64 k
 ·unfold I;rw[Mg hj,bC]
theorem Apz.ldN{s:EV}{len n:Nat}{l x:List EV}(r:Apz h s q e sz len l)(f:0<len){o:Nat}(a:Mh l o n=some x)(k:EV->R):Oc n (.ptr q o) h k=k (.agg x):=by
 rcases r with r|⟨rfl,rfl,c,d⟩
 ·exact Dj (r.block f) rfl a
 ·exact Dj c rfl a
theorem Apz.Hz{s:EV}{len:Nat}{l:List EV}(r:Apz h s q e sz len l)(k:EV->R):Ev.Hz s k=k (I len):=by
 rcases r with r|⟨rfl,rfl,c,d⟩
 ·exact r.Hz k
 ·rfl
theorem Bob(j:Bgy L){f:Fr}(a:L[i]? = some f):Mh (L.map Fr.cells).flatten (i*49) 49=some f.cells:=
 A8b (n:=49) _ _ _ (fun x o=>by obtain⟨f,a,rfl⟩:=cJ.1 o;exact Fr.Bk (j f a).1) (by rw[av,a];rfl)
theorem A3w(hK:10000<K){c r:Ai}{v3 V:Nat}{fv:EV}(W:Bgy L)(hL:L.length<=200)(l3:h0.next<=v3)(lq:h0.next<=V):
 ∀(n i:Nat) (h:Ab) (v:EV) (q:Nat) (X:List (List EV)),L.length-i<n->i<=L.length->Ext h0 h->HB h0->HB h->h.get v3=some (.cells Ba 119)->Apz h fv V 247 49 L.length (L.map Fr.cells).flatten->X.length=i->Ba5 X->Ci h v q 30 64 i X.flatten->(0<i->h0.next<=q/\q≠V/\q≠v3) ->
 Ok (Qh c r K n (.ptr v3 0) v fv (I L.length) (I i) h) fun w h'=>∃v q X,w=.tuple [v,I 0]/\Ci h' v q 30 64 X.length X.flatten/\(0<X.length->h0.next<=q)/\X.length=L.length/\Ba5 X/\Ext h0 h'/\HB h':=by
 intro n;induction n with
 | zero=>intro i h v q X hn;omega
 | succ n ih=>
  intro i h v q X hn hi xx ab hb gv rf hX hS row P;rw[Qh];simp only[I,Ad];by_cases o:i<L.length
  ·have:decide ((i:Int)<(L.length:Int))=true:=by simp;omega
   simp only[this,Aa,Al5];have w:(L[i]).Wf:=(W _ (bF o)).1;have fr:=(W _ (bF o)).2;have e1:=Bob W (aH o);have ix:=rf.ix o;simp only[I]at ix;rw[ix,rf.ldN (by omega) e1];generalize L[i]=f at w fr e1⊢
   try simp only[Aa]
   refine Ok.stW (Ac _ _) (by simp) (Fr.Bk w) ?_;have U:Ext h ((h.new (.cells (List.replicate 5 (EV.int .i64 0)++List.replicate 44 (.int .u8 0)) 247)).put h.next (.cells f.cells 247)):=(Ar.new h _:Ext _ _).Ak (.inr (aC _)) (aE _) _;have g2:((h.new (.cells (List.replicate 5 (EV.int .i64 0)++List.replicate 44 (.int .u8 0)) 247)).put h.next (.cells f.cells 247)).get h.next=some (.cells f.cells 247):=Ae _ _ _
   generalize (h.new (.cells (List.replicate 5 (EV.int .i64 0)++List.replicate 44 (.int .u8 0)) 247)).put h.next (.cells f.cells 247)=h2 at U g2⊢
   have E:=U.hb hb;rw[C8 (U.at hb gv) rfl,Am (n:=256) Rj];simp only[Aa];rw[Dj g2 rfl (Am (Fr.Bk w))];refine(Alw w fr E hK).Ap ?_;rintro _ p ⟨rfl,x3⟩;have af:=x3.hb E;simp only[Aa];refine Ok.stW (Ac _ _) (by simp) (by rw[Bi,As3 w]) ?_;have x4:Ext p ((p.new (.cells (List.replicate 64 (EV.int .u8 0)) 30)).put p.next (.cells (Bc (Tc f)) 30)):=(Ar.new p _:Ext _ _).Ak (.inr (aC _)) (aE _) _;have g4:((p.new (.cells (List.replicate 64 (EV.int .u8 0)) 30)).put p.next (.cells (Bc (Tc f)) 30)).get p.next=some (.cells (Bc (Tc f)) 30):=Ae _ _ _
   generalize (p.new (.cells (List.replicate 64 (EV.int .u8 0)) 30)).put p.next (.cells (Bc (Tc f)) 30)=h4 at x4 g4⊢
   have G:=x4.hb af;have u:Ext h h4:=(U.trans x3).trans x4;have el:(Bc (Tc f)).length=64:=by rw[Bi,As3 w]
   simp only[I,Ad,aD,aA,Aa,Alu];rw[Dj g4 rfl (Am el)];have J:=row.frame (h':=h4) fun y=>u.get _ (hb _ _ (row.block y)) id
   refine N9 J G rfl (by simp) el (by omega) (by omega) ?_;intro h5 O n5 c5;simp only[Ama,Ad];rw[Cn (by omega) (by omega),show((i:Nat):Int)+1=((i+1:Nat):Int) by omega];have lv:=hb _ _ gv;have ah:=rf.lt hb (by omega);have nx:=u.next
   have c:Ar (fun j=>0<i/\j=q) h h5:=(Ext.to u).trans c5;refine ih (i+1) h5 _ (h4.next+1) (X++[Bc (Tc f)]) (by omega) (by omega) (xx.then c fun j hj a=>?_) ab (c5.hb G) (c.at hb gv fun y=>(P y.1).2.2 y.2.symm) (rf.frame fun _=>c.get _ ah fun y=>(P y.1).2.1 y.2.symm) (by rw[aF,hX];rfl) ?_ ?_ (fun _=>⟨by have:=xx.next;omega,by omega,by omega⟩)
   ·have:=(P hj.1).1
    have:=hj.2;omega
   ·intro x hx
    rcases bL.1 hx with y|y
    ·exact hS x y
    ·rw[aO]at y
     subst y;exact⟨el,_,Bbp w,rfl⟩
   ·rw[cy,show([Bc (Tc f)]).flatten=Bc (Tc f)from cR _];exact O
  ·have:i=L.length:=by omega
   subst this;have:decide ((L.length:Int)<(L.length:Int))=false:=by simp
   simp only[this,Aa,Alv];exact .ret ⟨v,q,X,rfl,by rw[hX];exact row,fun y=>(P (by omega)).1,hX,hS,xx,hb⟩
section
variable (H:Ca disp)
include H
theorem A9y(hd:8<=d)(hK:10000<K){ll:Nat}(hr:rtB g=true)(m:Q0 h b ml ll g es)(hb:HB h){z:Int}(hR:snR x y z es=true)(n0:0<=zn)(n1:zn<g.D*g.Z):
 Ok (Ag TT disp K d false 261 [Wc,.agg [I x,I y,I z,.ptr b 0],I zn] h) fun w h'=>∃v q X,w=.tuple [v,I 0]/\Ci h' v q 30 64 X.length X.flatten/\(0<X.length->h.next<=q)/\(X.length:Int)=g.parts/\Ba5 X/\Ext h h'/\HB h':=by
 have s:=Zf hr;have:=s.b0;have:=s.b1;obtain⟨e,rfl⟩:∃k,d=k+1:=⟨d-1,by omega⟩;rw[Au1 H (by omega)];simp only[Auc,Wc,Aa];have w1:Ext h ((h.new (.cells Ba 119)).new (.cells [I x,I y,I z,.ptr b 0] 163)):=(Ar.new _ _).Di _;have c1:((h.new (.cells Ba 119)).new (.cells [I x,I y,I z,.ptr b 0] 163)).get h.next=some (.cells Ba 119):=by rw[Ay _ (aE _)];exact Ac _ _
 have G:((h.new (.cells Ba 119)).new (.cells [I x,I y,I z,.ptr b 0] 163)).get (h.next+1)=some (.cells [I x,I y,I z,.ptr b 0] 163):=Ac _ _;have j:((h.new (.cells Ba 119)).new (.cells [I x,I y,I z,.ptr b 0] 163)).next=h.next+2:=rfl
 rw[show(h.new (.cells Ba 119)).next=h.next+1 from rfl];generalize (h.new (.cells Ba 119)).new (.cells [I x,I y,I z,.ptr b 0] 163)=h1 at w1 c1 G j⊢;have a:=w1.hb hb;rw[C8 G rfl,Am (n:=4) rfl];simp only[Aa];refine(Bfy (K:=K) H (d:=e) (by omega) (by omega) hr (m.frame (w1.get _ (hb _ _ m.map) id) (w1.get _ (hb _ _ m.row) id) (w1.get _ (hb _ _ m.live) id)) a hR n0 n1).Ap ?_;rintro _ h2 ⟨v,q,L,rfl,row,lq,O,P,J,o⟩;simp only[Aa,I,Ad,aD,aA,Alx];rw[row.Hz];have hp:g.parts<=200:=by unfold Gm.parts;omega
 have p:Ext h h2:=w1.trans J;refine(A3w hK P (by omega) (aC h.next) (by have:=w1.next;omega) K 0 h2 _ 0 [] (by omega) (by omega) p hb o (J.at a c1) row rfl (fun x U=>by cases U) (Ci.nil _ _ _ _) (fun y=>absurd y (bS _))).mono ?_;rintro _ h3 ⟨V,q',X,rfl,f,u,W,hS,xx,E⟩;exact⟨V,q',X,rfl,f,u,by rw[W];exact O,hS,xx,E⟩
end
end
structure Dk(S T:Mc):Prop where
 n:T.dv.n=S.dv.n
 size:T.dv.size=S.dv.size
 op:T.dv.op=S.dv.op
 ev:T.ev.length+T.P8.length=S.ev.length+S.P8.length
theorem Dk.refl(S:Mc):Dk S S:=⟨rfl,rfl,rfl,rfl⟩
theorem Dk.trans {S T U:Mc}(a:Dk S T)(b:Dk T U):Dk S U:=⟨b.n.trans a.n,b.size.trans a.size,b.op.trans a.op,b.ev.trans a.ev⟩
def Vk(D E:Dv):Prop:=E.n=D.n/\E.size=D.size/\E.op=D.op
theorem Bk5(D:Dv)(i:Int)(st:Nat):Vk D (D.fail i st):=by
 unfold Dv.fail;split<;>exact⟨rfl,rfl,rfl⟩
theorem Bjx(D:Dv)(z off:Int)(p:List EV):Vk D (D.Av7 z off p):=by
 unfold Dv.Av7;split<;>exact⟨rfl,rfl,rfl⟩
theorem Bdi(D:Dv)(e:Lq):Vk D (D.Sx e):=by
 unfold Dv.Sx
 repeat' split
 all_goals first|exact Bjx _ _ _ _|exact Bk5 _ _ _|exact⟨rfl,rfl,rfl⟩
theorem Bce:∀(ev:List Lq) (D:Dv) (P8:List Lq),Dk ⟨D,ev,P8⟩ (Az8 ev D P8)
 | [],D,P8=>by unfold Az8;exact⟨rfl,rfl,rfl,rfl⟩
 | e::r,D,P8=>by
  unfold Az8;split
  ·exact⟨rfl,rfl,rfl,rfl⟩
  ·have f:=Bce r (D.Sx e) (P8++[e])
   obtain⟨a,b,c⟩:=Bdi D e;refine⟨f.n.trans a,f.size.trans b,f.op.trans c,f.ev.trans ?_⟩;show r.length+(P8++[e]).length=(e::r).length+P8.length;simp only[aF,bH,eT];omega
theorem Bix(S:Mc):Dk S S.due:=Bce S.ev S.dv S.P8
theorem Aj6(S:Mc)(i:Int):Dk S (S.begin i):=by
 unfold Mc.begin;split
 ·exact Bix S
 ·exact Dk.refl S
theorem A53 {S:Mc}{D:Dv}(v:Vk S.dv D):Dk S { S with dv:=D }:=⟨v.1,v.2.1,v.2.2,rfl⟩
theorem Be4(D:Dv)(i:Int)(x:List EV):Vk D (D.append i x).1:=by
 unfold Dv.append
 repeat' split
 all_goals exact⟨rfl,rfl,rfl⟩
theorem Bh4(D:Dv)(i:Int):Vk D (D.reset i).1:=by
 unfold Dv.reset
 repeat' split
 all_goals exact⟨rfl,rfl,rfl⟩
theorem Bf4(D:Dv)(i:Int):Vk D (D.finish i).1:=by
 unfold Dv.finish
 repeat' split
 all_goals exact⟨rfl,rfl,rfl⟩
theorem Bgr(D:Dv):Vk D D.flush.1:=by
 unfold Dv.flush;split<;>exact⟨rfl,rfl,rfl⟩
theorem A1m(S:Mc)(i:Int)(x:List EV):Dk S (S.append i x).1:=(Aj6 S i).trans (A53 (S:=S.begin i) (Be4 _ i x))
theorem A5i(S:Mc)(i:Int):Dk S (S.reset i).1:=(Aj6 S i).trans (A53 (S:=S.begin i) (Bh4 _ i))
theorem A01(S:Mc)(i:Int):Dk S (S.finish i).1:=(Aj6 S i).trans (A53 (S:=S.begin i) (Bf4 _ i))
theorem As9(S:Mc):Dk S S.flush.1:=(Bix S).trans (A53 (S:=S.due) (Bgr _))
structure Bop(disp:Nat->Option FT)(K:Nat)(h:Ab)(m:Nat)(S:Mi)(F:Nat->Prop)(D V:Nat):Prop where
 Dc:∀k:EV->Ab->R,Ap (Bx K (.ptr m 0) h) k=k (.ptr D 0) h
 Bnu:Bx K (.ptr m 0) h.lift=some (.ptr D 0,h.lift)
 table:Ok (K2 K (.ptr m 0) h.lift) fun v h'=>v=Wc/\Ext h.lift h'
 device:∀k:EV->Ab->R,Ap (E3 K (.ptr D 0) h) k=k (.ptr V 0) h
 state:∀(i:Int) (k:EV->Ab->R),Ap (Ki K (.ptr V 0) (I i) h) k=k (I (if S.dr.dv.has i=true then(S.dr.dv.zs i.toNat).st else 4)) h
 reset:∀{d:Nat},14<=d->∀i:Int,0<(S.dr.begin i).dv.size->Ok (Ag TT disp K d false 196 [.ptr D 0,I i] h) fun v h'=>v=I (S.dr.reset i).2/\Da h' m { S with dr:=(S.dr.reset i).1 } F/\Kf F h h'/\HB h'
 finish:∀{d:Nat},14<=d->∀i:Int,Ok (Ag TT disp K d false 219 [.ptr D 0,I i] h) fun v h'=>v=I (S.dr.finish i).2/\Da h' m { S with dr:=(S.dr.finish i).1 } F/\Kf F h h'/\HB h'
 flush:∀{d:Nat},14<=d->Ok (Ag TT disp K d false 140 [.ptr D 0] h) fun v h'=>v=I S.dr.flush.2/\Da h' m { S with dr:=S.dr.flush.1 } F/\Kf F h h'/\HB h'
 append:∀{d:Nat},14<=d->∀(z:Int) {x:List EV},x.length=64->U8 x->∀{i b:Nat} {s:DX} {k:EV->Ab->DX->R} {Q:EV->Ab->Prop},Al7 b s=true->loose b s.nw = []->(∀w,Abb b w s.Cy=true) ->
  (∀h' s',Da h' m { S with dr:=(S.dr.append z x).1 } F->Kf F h h'->HB h'->Ok (k (.tuple [I (S.dr.append z x).2.1,I (S.dr.append z x).2.2]) h' s') Q)->Ok (Ev.Ds i b s h (fun h=>Ag TT disp K d false 45 [.ptr D 0,I z,.agg x] h) k) Q
theorem Akd(A:Ca disp)(hK:10000<K)(M:Da h m S F)(hb:HB h):∃D V,Bop disp K h m S F D V:=by
 obtain⟨lt,D,p,bl,ql,np,q,c,G,a⟩:=M.s;obtain⟨V,W,qc,qh,cs,hs,ms,F',b⟩:=a.drv.N8;have due:A4i disp K S.dr:=A2t A (by omega) S.dr;have u:=a.Iv.ext (h':=h.lift) fun i o g=>by rw[By];exact g
 refine⟨D,V,⟨fun k=>by rw[Aca a.Iv,Au],Aca u,Aw9 u (Du hb),fun k=>by rw[Az4 b,Au],fun i k=>by rw[A36 b.dev,Au],?_,?_,?_,?_⟩⟩
 ·intro d hd i hs
  refine(A3k A (by omega) hd due a.drv hb i hs).mono ?_;rintro _ h' ⟨rfl,s2,c2,f⟩;obtain⟨M2,j⟩:=M.drv hb a s2 c2;exact⟨rfl,M2,j,f⟩
 ·intro d hd i
  refine(Aqt A hd due a.drv hb i).mono ?_;rintro _ h' ⟨rfl,s2,c2,f⟩;obtain⟨M2,j⟩:=M.drv hb a s2 c2;exact⟨rfl,M2,j,f⟩
 ·intro d hd
  refine(At2 A (by omega) hd due a.drv hb).mono ?_;rintro _ h' ⟨rfl,s2,c2,f⟩;obtain⟨M2,j⟩:=M.drv hb a s2 c2;exact⟨rfl,M2,j,f⟩
 ·intro d hd z x v hu i b' s k Q b0 b1 b2 E
  refine Ok.Yh (S:=G) b0 b1 b2 (Aqr (K:=K) A (by omega) (d:=d) hd due a.drv.lift (Du hb) z v hu) (fun _ _ p=>p.2.2.1) ?_;rintro _ h6 J s' ⟨rfl,d6,_,n⟩ sm O _;obtain⟨P,U⟩:=M.drv hb a (d6.same sm) O;exact E J s' P U (sm.hb n)
section
def arC(m:Nat)(cur Cr:Nat->Int):List EV:=[.ptr m 0,I (cur 0),I (Cr 0),I (cur 1),I (Cr 1),I (cur 2),I (Cr 2)]
def Bca(h h':Ab)(m:Nat)(S:Mi)(F:Nat->Prop)(v:EV):Prop:=(∃e,v=I e)/\(∃a,Da h' m { S with dr:=a } F/\Dk S.dr a)/\Kf F h h'/\HB h'
section
variable (A:Ca disp)(hK:10000<K)(M:Da h m S F)(hb:HB h)(hA:h.get ar=some (.cells (arC m cur Cr) 212))(fA:F ar){z:Int}
include A hK M hb hA
theorem Bg9(hd:15<=d)(hs:0<S.dr.dv.size):Ok (Ag TT disp K d false 262 [.ptr ar 0,I z] h) fun v h'=>Bca h h' m S F v:=by
 obtain⟨e,rfl⟩:∃k,d=k+1:=⟨d-1,by omega⟩;rw[Anq A (by omega)];simp only[Ais,Aa];rw[Aj hA rfl (v:=.ptr m 0) rfl];obtain⟨D,V,dr⟩:=Akd A hK M hb;rw[dr.Dc,dr.device,dr.state];generalize (if S.dr.dv.has z=true then((S.dr.dv.zs z.toNat).st:Int)else 4)=st;simp only[I,Ad];by_cases f:st=0
 ·simp only[f,aB,Aa]
  exact .ret ⟨⟨_,rfl⟩,⟨S.dr,M,Dk.refl _⟩,Ar.refl _,hb⟩
 ·simp only[f,aA,Aa,Acz]
  rw[Aj hA rfl (v:=.ptr m 0) rfl,dr.Dc];refine(dr.reset (d:=e) (by omega) z (by rw[(Aj6 S.dr z).size];exact hs)).Ap ?_;rintro _ h' ⟨rfl,M2,j,a⟩;exact .ret ⟨⟨_,rfl⟩,⟨_,M2,A5i _ _⟩,j,a⟩
omit hA hb M in
theorem Bd0(hd:14<=d){X:List (List EV)}(hX:Ba5 X)(ai:X.length<=1000){v:EV}:∀(f i:Nat) (h:Ab) (S:Mi),X.length-i<f->i<=X.length->Da h m S F->HB h->h.get ar=some (.cells (arC m cur Cr) 212)->F ar->F q->Ci h v q 30 64 X.length X.flatten ->
 Ok (L0 (Ag TT disp K d false) (Ag TT disp K d true) K f (.ptr ar 0) (I z) v (I X.length) (I i) h) fun w h'=>Bca h h' m S F w:=by
 intro f;induction f with
 | zero=>intro i h S hf;omega
 | succ f ih=>
  intro i h S hf hi M hb hA fA fq row;rw[L0];simp only[I,Ad];by_cases u:i<X.length
  ·have:decide ((i:Int)<(X.length:Int))=true:=by simp;omega
   simp only[this,Aa,Afv];obtain⟨U,xu⟩:=hX _ (bF u);have e1:Mh X.flatten (i*64) 64=some X[i]:=A1h (n:=64) _ _ _ (fun x hx=>(hX x hx).1) (aH u);have ix:=row.ix u .i64;rw[ix,Dj (row.block (by omega)) rfl e1];generalize X[i]=x at U xu
   try simp only[Aa]
   refine Ok.stA (Ac _ _) (by simp) U ?_;have E:Ext h ((h.new (.cells (List.replicate 64 (EV.int .u8 0)) 30)).put h.next (.cells x 30)):=(Ar.new h _:Ext _ _).Ak (.inr (aC _)) (aE _) _;have g2:((h.new (.cells (List.replicate 64 (EV.int .u8 0)) 30)).put h.next (.cells x 30)).get h.next=some (.cells x 30):=Ae _ _ _
   generalize (h.new (.cells (List.replicate 64 (EV.int .u8 0)) 30)).put h.next (.cells x 30)=h2 at E g2⊢
   have o:=E.hb hb;have G:=E.at hb hA;have M2:=(M.ext hb E).less fun j (hj:F j)=>Or.inl hj
   have l2:=o _ _ G;have l3:=o _ _ g2;obtain⟨D,V,dr⟩:=Akd A hK M2 o;rw[Ah l2 (by kernel_rfl),Aj G rfl (v:=.ptr m 0) rfl]
   try simp only[Aa,Aw]
   rw[Ji (by kernel_rfl) (by kernel_rfl) dr.Bnu]
   try simp only[Aa,Aw]
   rw[Ah l3 (by kernel_rfl),Dj g2 rfl (Am U)]
   try simp only[Aa,Aw]
   refine dr.append hd z U xu (by kernel_rfl) (by kernel_rfl) (fun _=>by kernel_rfl) ?_;intro h4 s4 W k4 J;have dk:=A1m S.dr z x;generalize (S.dr.append z x)=R at W dk⊢;obtain⟨R1,ro,re⟩:=R;have p:Kf F h h4:=(Ext.kf E).trans k4;have fin:∀e:Int,Ok (some (EV.int .i64 e,h4)) fun w h'=>Bca h h' m S F w:=fun e=>.ret ⟨⟨e,rfl⟩,⟨R1,W,dk⟩,p,J⟩
   simp only at W dk;simp only[Aa,I,Ad];by_cases O:re=0
   ·subst O
    simp only[aB,Aa,Ad];by_cases P:ro=(i:Int)
    ·simp only[P,aD,aA,Aa,Ad,Pp,Pw,Afd]
     rw[Cn (by omega) (by omega),show((i:Nat):Int)+1=((i+1:Nat):Int) by omega];refine(ih (i+1) h4 _ (by omega) (by omega) W J (p.at hb hA fA) fA fq (row.frame fun y=>p.get _ (hb _ _ (row.block y)) fun y=>y fq)).mono ?_;rintro _ h5 ⟨a,⟨D',M5,c5⟩,k5,ab⟩;exact⟨a,⟨D',M5,dk.trans c5⟩,p.trans k5,ab⟩
    ·simp only[P,aG,aB,Aa,Ad,Pp,Pw,show ¬((30:Int)=0) by decide]
     exact fin 30
   ·simp only[O,aA,Aa,Ad,Pp,Pw,aG,aB]
    exact fin re
  ·have:i=X.length:=by omega
   subst this;have:decide ((X.length:Int)<(X.length:Int))=false:=by simp
   simp only[this,Aa,Afc];rw[Aj hA rfl (v:=.ptr m 0) rfl];obtain⟨D,V,dr⟩:=Akd A hK M hb;rw[dr.Dc,dr.device];have st:=dr.state z;simp only[I]at st;rw[st];generalize (if S.dr.dv.has z=true then((S.dr.dv.zs z.toNat).st:Int)else 4)=st';simp only[I,Ad];by_cases hz:st'=2
   ·simp only[hz,aB,Aa]
    exact .ret ⟨⟨0,rfl⟩,⟨S.dr,M,Dk.refl _⟩,Ar.refl _,hb⟩
   ·simp only[hz,aA,Aa,Aed]
    rw[Aj hA rfl (v:=.ptr m 0) rfl,dr.Dc];refine(dr.finish (d:=d) hd z).Ap ?_;rintro _ h' ⟨rfl,M2,k2,o⟩;exact .ret ⟨⟨_,rfl⟩,⟨_,M2,A01 _ _⟩,k2,o⟩
end
end
section
section
variable (A:Ca disp)(hK:10000<K){ll:Nat}(M:Da h m S F)(hb:HB h)(hA:h.get ar=some (.cells (arC m cur Cr) 212))(fA:F ar)(hr:rtB S.g=true)(mp:Q0 h b ml ll S.g es){z:Int}(hR:snR x y z es=true)(n0:0<=zn)(n1:zn<S.g.D*S.g.Z)
include A hK M hb hA fA hr mp hR n0 n1
theorem Bkt(hd:17<=d)(hs:0<S.dr.dv.size):Ok (Ag TT disp K d false 236 [.ptr ar 0,.agg [I x,I y,I z,.ptr b 0],I zn] h) fun v h'=>Bca h h' m S F v:=by
 have s:=Zf hr;have hp:S.g.parts<=S.g.S:=by
  have:=hr;unfold rtB at this;simp only[bI,bE]at this;exact this.2.1
 have:=s.s0;have:=s.s1;have:=s.b0;have aw:1<=S.g.parts:=by unfold Gm.parts;omega
 obtain⟨e,rfl⟩:∃k,d=k+1:=⟨d-1,by omega⟩;rw[Ap6 A (by omega)];simp only[Ame,Aa];have P:Ext h (h.new (.cells [I x,I y,I z,.ptr b 0] 163)):=Ar.new _ _;have g1:(h.new (.cells [I x,I y,I z,.ptr b 0] 163)).get h.next=some (.cells [I x,I y,I z,.ptr b 0] 163):=Ac _ _
 have ad:(h.new (.cells [I x,I y,I z,.ptr b 0] 163)).next=h.next+1:=rfl
 generalize h.new (.cells [I x,I y,I z,.ptr b 0] 163)=h1 at P g1 ad⊢;have u:=P.hb hb;have U:=P.at hb hA;have M1:=(M.ext hb P).less fun j (hj:F j)=>Or.inl hj
 have l1:=u _ _ U;obtain⟨D,V,dr⟩:=Akd A hK M1 u;rw[Ah l1 (by kernel_rfl),Aj U rfl (v:=.ptr m 0) rfl]
 try simp only[Aa,Aw]
 refine Ok.Ds (by kernel_rfl) (by kernel_rfl) dr.table (fun _ _ p=>p.2) ?_;rintro _ ay h2 ⟨rfl,_⟩ _ x2;have J:=x2.hb u;have g2:=x2.at u g1;have l2:=J _ _ g2;have af:h.next<h1.next:=by omega
 try simp only[Aa,Aw]
 rw[Ah af (by kernel_rfl),C8 g2 rfl,Am (n:=4) rfl]
 try simp only[Aa,Aw]
 have f:Ext h h2:=P.trans x2;have ag:Q0 h2.lift b ml ll S.g es:=(mp.frame (f.get _ (hb _ _ mp.map) id) (f.get _ (hb _ _ mp.row) id) (f.get _ (hb _ _ mp.live) id)).frame (By _ _) (By _ _) (By _ _);refine Ok.Ds (by kernel_rfl) (by kernel_rfl) (A9y (K:=K) A (d:=e) (by omega) hK hr ag (Du J) hR n0 n1) (fun _ _ p=>by obtain⟨_,_,_,_,_,_,_,_,p,_⟩:=p;exact p) ?_;rintro _ az h3 ⟨v,q,X,rfl,row,lq,hL,hX,_,_⟩ sm x3;have E:=x3.hb J;have o:Ci h3 v q 30 64 X.length X.flatten:=row.frame fun _=>sm.get _
 have hq:h2.next<=q:=lq (by omega)
 simp only[Aa,I,Ad,aD,aA,Afe];have O:Ext h h3:=f.trans x3;have W:=O.at hb hA;have M3:Da h3 m S (fun i=>F i\/i=q):=(M.ext hb O).less fun j hj=>by
  rcases hj with hj|hj
  ·exact .inl hj
  ·subst hj
   have:=E _ _ (o.block (by omega));have:=f.next
   exact .inr ⟨by omega,by omega⟩
 refine(Bg9 (K:=K) A hK M3 E W (z:=zn) (d:=e) (by omega) hs).Ap ?_;rintro _ h4 ⟨⟨e4,rfl⟩,⟨D',M4,c4⟩,k4,aa⟩;have ab:Kf F h h4:=(Ext.kf O).trans (k4.less fun j hj=>.inl hj);simp only[Aa,I,Ad];by_cases h0:e4=0
 ·simp only[h0,aD,aA,Aa,Afl]
  have G:=o.frame (h':=h4) fun y=>k4.get _ (E _ _ (o.block y)) fun w=>w (.inr rfl)
  rw[G.Hz];refine(Bd0 (K:=K) A hK (d:=e) (by omega) hX (by omega) K 0 h4 _ (by omega) (by omega) M4 aa (k4.at E W (.inl fA)) (.inl fA) (.inr rfl) G).mono ?_;rintro _ h5 ⟨a,⟨D2,M5,c5⟩,k5,aj⟩;exact⟨a,⟨D2,M5.less fun j hj=>.inl hj,c4.trans c5⟩,ab.trans (k5.less fun j hj=>.inl hj),aj⟩
 ·simp only[h0,aG,aB,Aa]
  exact .ret ⟨⟨e4,rfl⟩,⟨D',M4.less fun j hj=>.inl hj,c4⟩,ab,aa⟩
end
end
section
def N3(f:Nat->Int)(i:Nat)(v:Int):Nat->Int:=fun j=>if j=i then v else f j
theorem Bos(hi:i<3):(arC m cur Cr)[1+i*2+1]? = some (I (Cr i)):=by
 rcases i with _|_|_|i<;>first|rfl|omega
theorem Bn2(hi:i<3):(arC m cur Cr)[1+i*2]? = some (I (cur i)):=by
 rcases i with _|_|_|i<;>first|rfl|omega
theorem A1i(hi:i<3)(v:Int):(arC m cur Cr).set (1+i*2+1) (I v)=arC m cur (N3 Cr i v):=by
 rcases i with _|_|_|i<;>first|rfl|omega
theorem A8v(hi:i<3)(v w:Int):Mf (arC m cur Cr) (1+i*2) [I v,I w]=some (arC m (N3 cur i v) (N3 Cr i w)):=by
 rcases i with _|_|_|i<;>first|rfl|omega
theorem A7c{z:Int}(h:S.I7 z=false):0<=Ej S.g z->¬S.bad z.toNat=1:=by
 intro hd hb;unfold Mi.I7 at h;rw[aP hd,aP hb]at h;cases h
noncomputable def tgt(S:Mi)(o:Int)(i:Nat):Int × Mi:=
 if ¬o = -1/\S.I7 o=false then(o,S)else match S.ps i with
 | []=>(-1,S)
 | z::r=>(z,{ S with ps:=upd S.ps i r })
section
variable (A:Ca disp)(hK:10000<K)(M:Da h m S F)(hb:HB h)(hA:h.get ar=some (.cells (arC m cur Cr) 212))(fA:F ar)(hi:i<3)
include hK M hb
theorem Bhq(hi:i<S.g.D.toNat)
 (J:∀h',(S.ps i = []->Da h' m S F->Kf F h h'->HB h'->Ok (k (.tuple [I 0,I 15]) h') Q)/\(∀z r,S.ps i=z::r->Da h' m { S with ps:=upd S.ps i r } F->Kf F h h'->HB h'->Ok (k (.tuple [I z,I 0]) h') Q)) :
 Ok (Ap (Bw K (.ptr m 0) h) fun v h=>Ap (O4 K v (I i) h) k) Q:=by
 obtain⟨lt,D,p,bl,ql,np,q,c,G,a⟩:=M.s;rw[Se a.Iv,Au];have o:=a.psz.nd;subst o;refine(A3t (K:=K) a.Gw hb a.psz (by omega) i).Ap ?_;rintro _ h' ⟨c3,n,x,e,j,rfl,O,P,alt⟩;obtain⟨a3,cH⟩:=a.Api hb O P c3;have wf:∀{j},(∀d,d<S.g.D.toNat->∀x∈j d,x∈S.ps d)->Mi.Wf { S with ps:=j }:=fun sub=>{ toWp:=⟨M.wf.sm,fun d hd x f=>M.wf.ps d hd x (sub d hd x f)⟩,op:=M.wf.op }
 rcases alt with⟨y,_⟩|⟨_,_,y,rfl,rfl,rfl⟩|⟨_,_,rfl,r,y,rfl⟩
 ·omega
 ·obtain⟨u,E⟩:=M.made (Rw.mono (H:=Out F h) ⟨fun i hi=>aL hi.1 cH.next,D,p,bl,ql,_,q,c,G,a3⟩ (fun _=>.inl) (Bh.lt lt cH.next)) cH (wf fun d hd x f=>f)
  exact(J h').1 y u E n
 ·have y:S.ps i=x::r:=y
  obtain⟨u,E⟩:=M.made (Rw.mono (H:=Out F h) ⟨fun i hi=>aL hi.1 cH.next,D,p,bl,ql,_,q,c,G,a3⟩ (fun _=>.inl) (Bh.lt lt cH.next)) cH (wf fun d hd U f=>by
   unfold upd at f;split at f
   ·rename_i e
    have e:d=i:=e;subst e;rw[y];exact aT _ f
   ·exact f)
  exact(J h').2 x r y u E n
include hA fA hi
theorem Be3(O:Tk (Cr i)):Ok (Ra K (.ptr ar 0) (I i) h) fun v h'=>v=I (tgt S (Cr i) i).1/\Da h' m (tgt S (Cr i) i).2 F/\h'.get ar=some (.cells (arC m cur (N3 Cr i (-1))) 212)/\Ar (fun j=>¬F j\/j=ar) h h'/\HB h':=by
 have P:=hb _ _ hA;have sm:=M.wf.sm;have:=sm.d0;simp only[Ra,Aa];unfold I;rw[Z6 hi]
 try simp only[Aa]
 rw[Aj hA rfl (Bos hi),Z6 hi]
 try simp only[Aa]
 refine Ok.Zl hA rfl rfl (by show _<7;omega) ?_;rw[show(arC m cur Cr).set (1+i*2+1) (.int .i64 (-1))=arC m cur (N3 Cr i (-1))from A1i hi (-1)];have c1:Ar (fun j=>j=ar) h (h.put ar (.cells (arC m cur (N3 Cr i (-1))) 212)):=(Ar.refl (S:=fun j=>j=ar) h).Ak (.inl rfl) P _;have f:(h.put ar (.cells (arC m cur (N3 Cr i (-1))) 212)).get ar=some (.cells (arC m cur (N3 Cr i (-1))) 212):=Ae _ _ _;generalize h.put ar (.cells (arC m cur (N3 Cr i (-1))) 212)=h1 at c1 f⊢;have a:=c1.hb hb;have E:=M.Ai3 c1 fun j hj _=>hj▸fA
 have n:Ar (fun j=>¬F j\/j=ar) h h1:=c1.mono fun j hj=>.inr hj
 have take:∀h1,Da h1 m S F->HB h1->h1.get ar=some (.cells (arC m cur (N3 Cr i (-1))) 212)->Ar (fun j=>¬F j\/j=ar) h h1->Ok (Sp K (.ptr ar 0) (.int .i64 (i:Int)) h1) fun v h'=>v=I (match S.ps i with | []=>(-1,S)|z::r=>(z,{ S with ps:=upd S.ps i r }):Int × Mi).1/\Da h' m (match S.ps i with | []=>(-1,S)|z::r=>(z,{ S with ps:=upd S.ps i r }):Int × Mi).2 F/\h'.get ar=some (.cells (arC m cur (N3 Cr i (-1))) 212)/\Ar (fun j=>¬F j\/j=ar) h h'/\HB h':=by
  intro h1 E a f n;simp only[Sp,Aa];rw[Aj f rfl (v:=.ptr m 0) rfl];refine Bhq hK E a (i:=i) (by omega) fun h'=>⟨fun e M2 G o=>?_,fun z r e M2 G o=>?_⟩
  ·rw[e]
   simp only[Aa,I,Ad];exact .ret ⟨rfl,M2,G.at a f fA,n.trans (G.mono fun j hj=>.inl hj),o⟩
  ·rw[e]
   simp only[Aa,I,Ad,aD,aA,Aat];exact .ret ⟨rfl,M2,G.at a f fA,n.trans (G.mono fun j hj=>.inl hj),o⟩
 simp only[I,Ad];unfold tgt;by_cases p:Cr i = -1
 ·rw[aK (fun y=>y.1 p)]
  simp only[p,aD,aA,Aa,Ad,Nl];exact take _ E a f n
 ·simp only[p,aG,aB,Aa,Ad,fS]
  rw[Aj f rfl (v:=.ptr m 0) rfl];refine(Hy (K:=K) E.s a O).Ap ?_;rintro _ h2 ⟨rfl,u⟩;have o:=u.hb a;cases J:S.I7 (Cr i)with
  | true=>
   rw[aK (by simp)];simp only[Aa,Nl];exact take _ ((E.ext a u).less fun j (hj:F j)=>Or.inl hj) o (u.at a f) (n.trans (Ext.to u))
  | false=>
   rw[aN rfl];simp only[Aa,Nl];exact .ret ⟨rfl,(E.ext a u).less fun j (hj:F j)=>Or.inl hj,u.at a f,n.trans (Ext.to u),o⟩
end
end
structure Mk(S T:Mi):Prop where
 g:T.g=S.g
 dr:Dk S.dr T.dr
theorem Mk.refl(S:Mi):Mk S S:=⟨rfl,Dk.refl _⟩
theorem Mk.trans {T U:Mi}(a:Mk S T)(b:Mk T U):Mk S U:=⟨b.g.trans a.g,a.dr.trans b.dr⟩
theorem A7l(S:Mi)(z u:Int):Mk S (S.leave z u).1:=by
 refine⟨(A33 S z u).1,?_⟩;unfold Mi.leave;split
 ·exact Dk.refl _
 ·split
  ·exact Dk.refl _
  ·exact A01 _ _
theorem Bji(S:Mi):Mk S S.close.1:=by
 unfold Mi.close;exact((⟨rfl,Dk.refl _⟩:Mk S { S with a:=-1,b:=-1,u:=0 }).trans (A7l _ _ _)).trans (A7l _ _ _)
theorem Zz(S:Mi)(z:Int):Mk S (S.Bt z).1:=by
 unfold Mi.Bt;split
 ·exact Mk.refl _
 ·split
  ·exact Mk.refl _
  ·split
   ·exact⟨rfl,Dk.refl _⟩
   ·exact(⟨rfl,Dk.refl _⟩:Mk S (S.mark z)).trans (Bji _)
theorem Bjg(S:Mi):Mk S S.ready.1:=by
 refine⟨(Bcc S).1,?_⟩;unfold Mi.ready;split
 ·exact Dk.refl _
 ·split
  ·exact As9 _
  ·split<;>exact As9 _
theorem A94(S:Mi)(e:En)(An Br Av seq:Int):Mk S (S.put e An Br Av seq).1:=by
 refine⟨(Bjy S e An Br Av seq).1,?_⟩;unfold Mi.put;split
 ·exact Dk.refl _
 ·exact A1m _ _ _
theorem Bmg(S:Mi)(e:En)(Av seq:Int):Mk S (S.both e Av seq).1:=by
 unfold Mi.both;split
 ·exact A94 _ _ _ _ _ _
 ·exact(A94 _ _ _ _ _ _).trans (A94 _ _ _ _ _ _)
theorem A7y(S:Mi):Mk S S.Auv:=⟨rfl,Dk.refl _⟩
theorem Bg5(B:Mi × Int × Int):Mk B.1 (Mi.Lj B):=by
 unfold Mi.Lj;split
 ·exact A7y _
 ·exact Mk.refl _
theorem A1b(e:En)(Av seq:Int):∀(n:Nat) (S:Mi),Mk S (Mi.Qv e Av seq n S).1
 | 0,S=>Mk.refl S
 | n+1,S=>by
  have a:=Bjg S;have b:=a.trans (Bmg S.ready.1 e Av seq);have c:=(b.trans (Bg5 _)).trans (Zz _ (S.ready.1.both e Av seq).2.1);unfold Mi.Qv;split
  ·exact a
  ·split
   ·exact b.trans (A7y _)
   ·split
    ·exact b
    ·split
     ·exact c
     ·exact c.trans (A1b e Av seq n _)
theorem Bjc(S:Mi)(e:En)(Av seq:Int):Mk S (S.place e Av seq).1:=by
 unfold Mi.place;split
 ·exact Mk.refl _
 ·exact A1b _ _ _ _ _
theorem Bgm(D:Dv)(i:Int):Vk D (D.begin i):=by
 unfold Dv.begin;split<;>exact⟨rfl,rfl,rfl⟩
theorem Bk1(S:Mc)(i off:Int):Dk S (S.read i off).1:=(Aj6 S i).trans (A53 (S:=S.begin i) (Bgm _ i))
theorem A5t{D:Mc}(d:Dk S.dr D):Mk S { S with dr:=D }:=⟨rfl,d⟩
theorem Aps(S:Mi)(x:Me)(An Br:Int):Mk S (S.Ea x An Br).1:=by
 have r:=A5t (Bk1 S.dr An x.off);unfold Mi.Ea;split
 ·exact r
 ·split
  ·exact r
  ·split
   ·exact r.trans (Zz _ _)
   ·exact r
theorem Bmx(S:Mi)(x:Me):Mk S (S.read x).1:=by
 unfold Mi.read;split
 ·exact Mk.refl _
 ·split
  ·exact Aps _ _ _ _
  ·split<;>exact(Aps _ _ _ _).trans (Aps _ _ _ _)
theorem Bii(S:Mi)(x:Me):Mk S (S.check x).1:=by
 unfold Mi.check;split
 ·exact Mk.refl _
 ·split
  ·exact Aps _ _ _ _
  ·have c:=(Aps S x x.An x.Br).trans (Aps (S.Ea x x.An x.Br).1 x x.Br x.An)
   unfold Mi.A4f;split
   ·exact c
   ·split<;>exact c
theorem Mi.Wf.Lj {B:Mi × Int × Int}(w:B.1.Wf):(Mi.Lj B).Wf:=by
 unfold Mi.Lj;split
 ·exact w.Auv
 ·exact w
theorem An3:Tk Me.zero.An/\Tk Me.zero.Br:=⟨⟨by decide,by decide⟩,⟨by decide,by decide⟩⟩
theorem Azl(e:En)(Av seq:Int):∀(n:Nat) (S:Mi),S.Wf->Tk (Mi.Qv e Av seq n S).2.1.An/\Tk (Mi.Qv e Av seq n S).2.1.Br
 | 0,S,_=>An3
 | n+1,S,w=>by
  have w1:=w.ready.both e Av seq;unfold Mi.Qv;split
  ·exact An3
  ·split
   ·exact w1.rng
   ·split
    ·exact An3
    ·split
     ·exact An3
     ·exact Azl e Av seq n _ (w1.Lj.Bt _)
theorem Bdx(w:S.Wf)(e:En)(Av seq:Int):Tk (S.place e Av seq).2.1.An/\Tk (S.place e Av seq).2.1.Br:=by
 unfold Mi.place;split
 ·exact An3
 ·exact Azl _ _ _ _ _ w
theorem Bph(S:Mi)(o:Int)(i:Nat):(tgt S o i).2.g=S.g/\(tgt S o i).2.dr=S.dr/\(tgt S o i).2.bad=S.bad:=by
 unfold tgt;split
 ·exact⟨rfl,rfl,rfl⟩
 ·split<;>exact⟨rfl,rfl,rfl⟩
theorem Bi2:TT.eqs 23=some [0,0,0,0,0,0]:=by kernel_rfl
theorem Bgx(a:Int):eqB a a=true:=by rw[<-A8n,Axq];simp
theorem Bn8(g:Gm)(k:EV->R):Kv Ake (bin TT .neq 23) (gV g) (gV g) k=k (.bool false):=by
 have h1:Ave TT 23 (gV g) (gV g)=some true:=by
  unfold Ave gV;rw[Bi2];simp only[gL,shaped,I];rw[show Nat.beq 0 0=true from rfl];simp only[Al,Fv,Aiy,show Nat.beq (Qb .i64) (Qb .i64)=true from rfl,Bgx]
 show oB k (match Ave TT 23 (gV g) (gV g)with|some b=>some (EV.bool (Bb b false true))|none=>none)=_;rw[h1];rfl
structure Af1(S:Mi)(cur Cr:Nat->Int):Prop where
 cur:∀i,i<3->cur i = -1\/Ej S.g (cur i)=i
 Cr:∀i,i<3->Cr i = -1\/Ej S.g (Cr i)=i
theorem Af1.tgt(a:Af1 S cur Cr)(w:S.Wf)(hi:i<3):(tgt S (Cr i) i).1 = -1\/Ej S.g (tgt S (Cr i) i).1=i:=by
 have:=w.sm.d0;unfold Ev.tgt;split
 ·exact a.Cr i hi
 ·split
  ·exact .inl rfl
  ·rename_i z r e
   exact .inr (w.ps i (by omega) z (by rw[e];exact aV ..)).1
theorem Bic(s:Sm g){z:Int}(h:Ej g z=i):0<=z/\z<g.D*g.Z:=by
 rcases Ag6 s z with y|⟨_,_,_,a,b⟩
 ·omega
 ·exact⟨a,b⟩
section
structure Ann(h h':Ab)(ar m:Nat)(S:Mi)(F:Nat->Prop)(S':Mi)(cur' old':Nat->Int):Prop where
 kk:Mk S S'
 an:Af1 S' cur' old'
 M:Da h' m S' F
 A:h'.get ar=some (.cells (arC m cur' old') 212)
 c:Ar (fun j=>¬F j\/j=ar) h h'
 hb:HB h'
theorem Ann.trans {f:Ab}{T U:Mi}{c1 o1 c2 j:Nat->Int}(a:Ann h1 h2 ar m S F T c1 o1)(b:Ann h2 f ar m T F U c2 j):Ann h1 f ar m S F U c2 j:=⟨a.kk.trans b.kk,b.an,b.M,b.A,a.c.trans b.c,b.hb⟩
theorem Ann.less{T:Mi}{c1 o1:Nat->Int}(a:Ann h1 h2 ar m S F T c1 o1)(s:∀i,F' i->F i):Ann h1 h2 ar m S F' T c1 o1:=⟨a.kk,a.an,a.M.less s,a.A,a.c.mono fun i hi=>hi.imp (fun y w=>y (s i w)) id,a.hb⟩
theorem Af1.of {T:Mi}(a:Af1 S cur Cr)(g:T.g=S.g):Af1 T cur Cr:=⟨by rw[g];exact a.cur,by rw[g];exact a.Cr⟩
theorem Af1.A8j(a:Af1 S cur Cr){z:Int}(f:z = -1\/Ej S.g z=i):Af1 S cur (N3 Cr i z):=⟨a.cur,fun j hj=>by
 unfold N3;split
 ·rename_i e;subst e;exact f
 ·exact a.Cr j hj⟩
theorem Af1.setCur(a:Af1 S cur Cr){z:Int}(f:z = -1\/Ej S.g z=i):Af1 S (N3 cur i z) Cr:=⟨fun j hj=>by
 unfold N3;split
 ·rename_i e;subst e;exact f
 ·exact a.cur j hj,a.Cr⟩
theorem Af1.A4h(a:Af1 S cur Cr)(w:S.Wf)(hi:i<3)(h:¬(Ev.tgt S (Cr i) i).1 = -1):Ej S.g (Ev.tgt S (Cr i) i).1=i/\¬S.bad (Ev.tgt S (Cr i) i).1.toNat=1:=by
 have:=w.sm.d0;have hd:=(a.tgt w hi).resolve_left h;refine⟨hd,?_⟩;revert h hd;unfold Ev.tgt;split
 ·rename_i f
  intro h hd;exact A7c f.2 (by show 0<=Ej S.g (Cr i);rw[hd];omega)
 ·split
  ·intro h;exact absurd rfl h
  ·rename_i z r e
   intro _ _;exact(w.ps i (by omega) z (by rw[e];exact aV ..)).2
theorem Avo {T:Mi}(w:T.Wf){z:Int}(g:T.g=S.g)(b:T.bad=S.bad)(a:0<=Ej S.g z)(hb:¬S.bad z.toNat=1):Al0 (T.Bt z).1.bad (S.g.D*S.g.Z).toNat<Al0 S.bad (S.g.D*S.g.Z).toNat:=by
 have:=Amd w (z:=z) (by rw[g];exact a) (by rw[b];exact hb);rw[b,g]at this;exact this
section
variable (A:Ca disp)(hK:10000<K){ll:Nat}(fA:F ar)(fb:F b/\F ml/\F ll/\b≠ar/\ml≠ar/\ll≠ar){z:Int}(hR:snR x y z es=true)(hi:i<3)
include A hK fA fb hR hi
theorem A8s(hd:18<=d)(ft:F t)(ta:t≠ar):∀(n f:Nat) (h:Ab) (S:Mi) (cur Cr:Nat->Int),Al0 S.bad (S.g.D*S.g.Z).toNat<=n->n<f->Da h m S F->HB h->h.get ar=some (.cells (arC m cur Cr) 212)->h.get t=some (.cells [I x,I y,I z,.ptr b 0] 163)->Q0 h b ml ll S.g es->rtB S.g=true->0<S.dr.dv.size->Af1 S cur Cr ->
 Ok (Kw (Ag TT disp K d false) (Ag TT disp K d true) K f (.ptr ar 0) (I i) (.ptr t 0) h) fun v h'=>∃(ok:Bool) (e:Int) (S':Mi) (cur' old':Nat->Int),v=.tuple [.bool ok,I e]/\Ann h h' ar m S F S' cur' old':=by
 intro n;induction n using Nat.strongRecOn with
 | ind n ih=>
 intro f h S cur Cr hn hf M hb hA gt mp hr hs an;obtain⟨f,rfl⟩:∃k,f=k+1:=⟨f-1,by omega⟩;have sm:=M.wf.sm;have ro:Tk (Cr i):=by
  rcases an.Cr i hi with w|w
  ·rw[w];exact⟨by omega,by omega⟩
  ·exact Aj5 sm (by omega)
 rw[Kw];refine(Be3 (K:=K) hK M hb hA fA hi ro).Ap ?_;rintro _ h2 ⟨rfl,M2,J,c2,O⟩;obtain⟨p,td,tb⟩:=Bph S (Cr i) i;have A4h:=an.A4h M.wf hi;generalize tgt S (Cr i) i=t' at M2 p td tb A4h⊢;obtain⟨o,T⟩:=t';simp only at M2 p td tb A4h⊢;have V:Mk S T:=⟨p,by rw[td];exact Dk.refl _⟩;have E:Af1 T cur (N3 Cr i (-1)):=(an.of p).A8j (.inl rfl);have a2:Ann h h2 ar m S F T cur (N3 Cr i (-1)):=⟨V,E,M2,J,c2,O⟩;simp only[I,Ad];by_cases hm:o = -1
 ·subst hm
  simp only[aB,Aa];exact .ret ⟨_,_,_,_,_,rfl,a2⟩
 obtain⟨al,ao⟩:=A4h hm;have P:Ej T.g o=i:=by rw[p];exact al
 have hz:=Bic (g:=T.g) (by rw[p];exact sm) P;simp only[hm,aA,Aa,Acg];have aq:=c2.at hb gt fun w=>w.elim (fun w=>w ft) ta
 rw[C8 aq rfl,Am (n:=4) rfl]
 try simp only[Aa]
 have au:Q0 h2 b ml ll T.g es:=by
  rw[p];exact mp.frame (c2.get _ (hb _ _ mp.map) fun w=>w.elim (fun w=>w fb.1) fb.2.2.2.1) (c2.get _ (hb _ _ mp.row) fun w=>w.elim (fun w=>w fb.2.1) fb.2.2.2.2.1) (c2.get _ (hb _ _ mp.live) fun w=>w.elim (fun w=>w fb.2.2.1) fb.2.2.2.2.2)
 have aw:rtB T.g=true:=by rw[p];exact hr
 have ax:0<T.dr.dv.size:=by rw[td];exact hs
 have fl:=Bkt (K:=K) A hK M2 O J fA aw au hR hz.1 hz.2 (d:=d) (by omega) ax;simp only[I]at fl;refine fl.Ap ?_;rintro _ W ⟨⟨e3,rfl⟩,⟨G,M3,c3⟩,k3,u⟩;have a:=k3.at O J fA;have l3:=u _ _ a;have aa:Mk S { T with dr:=G }:=V.trans (A5t c3);have ay:Ar (fun j=>¬F j\/j=ar) h2 W:=k3.mono fun j hj=>.inl hj
 have a3:Ann h W ar m S F { T with dr:=G } cur (N3 Cr i (-1)):=⟨aa,E.of rfl,M3,a,c2.trans ay,u⟩;have put:∀(c' o':Nat->Int),Af1 T c' o'->Ann h (W.put ar (.cells (arC m c' o') 212)) ar m S F { T with dr:=G } c' o':=fun c' o' az=>
  ⟨aa,az.of rfl,M3.Ai3 (T:=fun j=>j=ar) ((Ar.refl (S:=fun j=>j=ar) W).Ak (.inl rfl) l3 _) fun j hj _=>hj▸fA,Ae _ _ _,a3.c.Ak (.inl (.inr rfl)) l3 _,u.put l3 _⟩
 simp only[Aa,I,Ad];by_cases h0:e3=0
 ·simp only[h0,aB,Aa]
  rw[Z6 hi]
  try simp only[Aa]
  rw[dC,Ah l3 (by kernel_rfl),Aj a rfl (Bn2 hi)]
  try simp only[Aa,Aw]
  rw[Az (l:=[.int .i64 o,I (cur i)]) rfl]
  try simp only[Aa,Aw]
  rw[Z6 hi]
  try simp only[Aa,Aw]
  rw[Kh (by kernel_rfl)];refine Ok.st (arC m (N3 cur i o) (N3 (N3 Cr i (-1)) i (cur i))) a rfl rfl (A8v hi o (cur i)) ?_;exact .ret ⟨true,0,_,_,_,rfl,put _ _ ((E.setCur (.inr P)).A8j ((an.of p).cur i hi))⟩
 simp only[h0,aA,Aa,Ad];by_cases ab:e3=34
 ·simp only[ab,aB,Aa]
  rw[Z6 hi]
  try simp only[Aa]
  refine Ok.Zl a rfl rfl (by show _<7;omega) ?_;rw[show EV.int .i64 o=I o from rfl,A1i hi];exact .ret ⟨false,34,_,_,_,rfl,put _ _ (E.A8j (.inr P))⟩
 simp only[ab,aA,Aa,Ac2];rw[Aj a rfl (v:=.ptr m 0) rfl];have rz:Tk o:=Aj5 sm (by omega);have q:=Xe A hK M3 u (d:=d) (by omega) rz;simp only[I]at q;refine q.Ap ?_;rintro _ h4 ⟨rfl,M4,k4,ad⟩;have U:=Zz { T with dr:=G } o;have ae:=k4.at u a fA;have a1:Ar (fun j=>¬F j\/j=ar) W h4:=k4.mono fun j hj=>.inl hj
 have a4:=a3.trans ⟨U,a3.an.of U.g,M4,ae,a1,ad⟩;simp only[Ad];by_cases hq:(Mi.Bt { T with dr:=G } o).2=34
 ·simp only[hq,aB,Aa]
  exact .ret ⟨_,_,_,_,_,rfl,a4⟩
 simp only[hq,aA,Aa];have gS:(Mi.Bt { T with dr:=G } o).1.g=S.g:=U.g.trans p;have less:=Avo M3.wf (z:=o) (S:=S) p tb (by omega) ao;have a7:=a4.c.at hb gt fun w=>w.elim (fun w=>w ft) ta
 have ba:Q0 h4 b ml ll (Mi.Bt { T with dr:=G } o).1.g es:=by
  rw[gS];exact mp.frame (a4.c.get _ (hb _ _ mp.map) fun w=>w.elim (fun w=>w fb.1) fb.2.2.2.1) (a4.c.get _ (hb _ _ mp.row) fun w=>w.elim (fun w=>w fb.2.1) fb.2.2.2.2.1) (a4.c.get _ (hb _ _ mp.live) fun w=>w.elim (fun w=>w fb.2.2.1) fb.2.2.2.2.2)
 refine(ih (Al0 (Mi.Bt { T with dr:=G } o).1.bad (S.g.D*S.g.Z).toNat) (by omega) f h4 _ _ _ (by rw[gS];exact aC _) (by omega) M4 ad ae a7 ba (by rw[gS];exact hr) (by rw[a4.kk.dr.size];exact hs) a4.an).mono ?_;rintro _ h5 ⟨ok,e,S',cur',old',rfl,a5⟩;exact⟨ok,e,S',cur',old',rfl,a4.trans a5⟩
theorem Bc1(hd:19<=d)(M:Da h m S F)(hb:HB h)(hA:h.get ar=some (.cells (arC m cur Cr) 212))(mp:Q0 h b ml ll S.g es)(hr:rtB S.g=true)(hs:0<S.dr.dv.size)(an:Af1 S cur Cr):
 Ok (Ag TT disp K d false 195 [.ptr ar 0,I i,.agg [I x,I y,I z,.ptr b 0]] h) fun v h'=>∃(ok:Bool) (e:Int) (S':Mi) (cur' old':Nat->Int),v=.tuple [.bool ok,I e]/\Ann h h' ar m S F S' cur' old':=by
 obtain⟨e,rfl⟩:∃k,d=k+1:=⟨d-1,by omega⟩;have sm:=M.wf.sm;rw[Anz A (by omega)];simp only[Ai0,Aa];have f:Ext h (h.new (.cells [I x,I y,I z,.ptr b 0] 163)):=Ar.new _ _;have E:(h.new (.cells [I x,I y,I z,.ptr b 0] 163)).get h.next=some (.cells [I x,I y,I z,.ptr b 0] 163):=Ac _ _
 have o:(h.new (.cells [I x,I y,I z,.ptr b 0] 163)).next=h.next+1:=rfl
 generalize h.new (.cells [I x,I y,I z,.ptr b 0] 163)=h1 at f E o⊢;have p:=f.hb hb;have J:=hb _ _ hA;have G:Da h1 m S (fun j=>F j\/j=h.next):=(M.ext hb f).less fun j hj=>by
  rcases hj with hj|hj
  ·exact .inl hj
  ·exact .inr ⟨by omega,by omega⟩
 have u:=mp.frame (f.get _ (hb _ _ mp.map) id) (f.get _ (hb _ _ mp.row) id) (f.get _ (hb _ _ mp.live) id);have O:=A5r S.bad (S.g.D*S.g.Z).toNat;have:=sm.d0;have:=sm.d1;have:=sm.z0;have:=sm.z1;obtain⟨P,U⟩:=N1 (a:=S.g.D) (b:=S.g.Z) (A:=8) (B:=64) (by omega) (by omega) (by omega) (by omega);refine(A8s (K:=K) (F:=fun j=>F j\/j=h.next) A hK (.inl fA) ⟨.inl fb.1,.inl fb.2.1,.inl fb.2.2.1,fb.2.2.2⟩ hR hi (d:=e) (by omega) (t:=h.next) (.inr rfl) (by omega) _ K h1 S cur Cr (aC _) (by omega) G p (f.at hb hA) E u hr hs an).mono ?_;rintro _ h2 ⟨ok,e,S',cur',old',rfl,a⟩;have n:=a.less (F':=F) fun i=>.inl
 exact⟨ok,e,S',cur',old',rfl,⟨n.kk,n.an,n.M,n.A,(Ext.to f).trans n.c,n.hb⟩⟩
end
end
section
section
variable (A:Ca disp)(hK:10000<K){ll:Nat}(fA:F ar)(fb:F b/\F ml/\F ll/\b≠ar/\ml≠ar/\ll≠ar){z:Int}
include A hK fA fb
theorem A9h(hd:19<=d)(hR:snR x y z es=true)(ft:F t)(ta:t≠ar):∀(f i n:Nat) (h:Ab) (S:Mi) (cur Cr:Nat->Int),3-i<f->i<=3->n<=i->Da h m S F->HB h->h.get ar=some (.cells (arC m cur Cr) 212)->h.get t=some (.cells [I x,I y,I z,.ptr b 0] 163)->Q0 h b ml ll S.g es->rtB S.g=true->0<S.dr.dv.size->Af1 S cur Cr ->
 Ok (Io (Ag TT disp K d false) (Ag TT disp K d true) K f (.ptr ar 0) (.ptr t 0) (I n) (I i) h) fun v h'=>∃(o e:Int) (S':Mi) (cur' old':Nat->Int),v=.tuple [I o,I e]/\Ann h h' ar m S F S' cur' old':=by
 intro f;induction f with
 | zero=>intro i n h S cur Cr hf;omega
 | succ f ih=>
  intro i n h S cur Cr hf hi hn M hb hA gt mp hr hs an;rw[Io];simp only[I,Ad];by_cases J:i<3
  ·have:decide ((i:Int)<3)=true:=by simp;omega
   simp only[this,Aa,Acp];rw[C8 gt rfl,Am (n:=4) rfl];simp only[Aa];have p:=Bc1 (K:=K) A hK fA fb hR J hd M hb hA mp hr hs an;simp only[I]at p;refine p.Ap ?_;rintro _ h2 ⟨ok,e,S2,u,E,rfl,a⟩;simp only[Aa,Ad];by_cases he:e=0
   ·simp only[he,aD,aA,Aa,Adh]
    have O:Q0 h2 b ml ll S2.g es:=by
     rw[a.kk.g];exact mp.frame (a.c.get _ (hb _ _ mp.map) fun w=>w.elim (fun w=>w fb.1) fb.2.2.2.1) (a.c.get _ (hb _ _ mp.row) fun w=>w.elim (fun w=>w fb.2.1) fb.2.2.2.2.1) (a.c.get _ (hb _ _ mp.live) fun w=>w.elim (fun w=>w fb.2.2.1) fb.2.2.2.2.2)
    have P:=a.c.at hb gt fun w=>w.elim (fun w=>w ft) ta
    have nx:∀o,o<=n+1->Ok (T2 (Ag TT disp K d false) (Ag TT disp K d true) K (Io (Ag TT disp K d false) (Ag TT disp K d true) K f) (.ptr ar 0) (.ptr t 0) (I (o:Nat)) (.int .i64 (i:Int)) h2) fun v h'=>∃(o e:Int) (S':Mi) (cur' old':Nat->Int),v=.tuple [I o,I e]/\Ann h h' ar m S F S' cur' old':=by
     intro o af;simp only[T2,Ad];rw[Cn (by omega) (by omega),show((i:Nat):Int)+1=((i+1:Nat):Int) by omega];refine(ih (i+1) o h2 S2 u E (by omega) (by omega) (by omega) a.M a.hb a.A P O (by rw[a.kk.g];exact hr) (by rw[a.kk.dr.size];exact hs) a.an).mono ?_;rintro _ h3 ⟨n3,e3,S',cur',old',rfl,a3⟩;exact⟨n3,e3,S',cur',old',rfl,a.trans a3⟩
    cases ok with
    | true=>
     simp only[Aa,Ad];rw[Cn (by omega) (by omega),show((n:Nat):Int)+1=((n+1:Nat):Int) by omega];exact nx (n+1) (aC _)
    | false=>
     simp only[Aa];exact nx n (by omega)
   ·simp only[he,aG,aB,Aa]
    exact .ret ⟨0,e,_,_,_,rfl,a⟩
  ·have:i=3:=by omega
   subst this;have:decide (((3:Nat):Int)<3)=false:=rfl;simp only[this,Aa,Acj];rw[Aj hA rfl (v:=.ptr m 0) rfl];obtain⟨D,V,dr⟩:=Akd A hK M hb;rw[dr.Dc];refine(dr.flush (d:=d) (by omega)).Ap ?_;rintro _ h2 ⟨rfl,M2,W,U⟩;have a:Ann h h2 ar m S F { S with dr:=S.dr.flush.1 } cur Cr:=⟨A5t (As9 _),an.of rfl,M2,W.at hb hA fA,W.mono fun j hj=>.inl hj,U⟩;generalize S.dr.flush.2=e;simp only[I,Ad];by_cases he:e=0
   ·simp only[he,aD,aA,Aa,Adn,Ad]
    by_cases G:(n:Int)<2
    ·simp only[G,aB,Aa]
     exact .ret ⟨_,40,_,_,_,rfl,a⟩
    ·simp only[G,aA,Aa,Ado]
     exact .ret ⟨_,0,_,_,_,rfl,a⟩
   ·simp only[he,aG,aB,Aa]
    exact .ret ⟨0,e,_,_,_,rfl,a⟩
theorem Bhb(hd:20<=d)(M:Da h m S F)(hb:HB h)(hA:h.get ar=some (.cells (arC m cur Cr) 212))(mp:Q0 h b ml ll S.g es)(hr:rtB S.g=true)(hs:0<S.dr.dv.size)(an:Af1 S cur Cr):
 Ok (Ag TT disp K d false 141 [.ptr ar 0,.agg [I x,I y,I z,.ptr b 0]] h) fun v h'=>∃(n' e:Int) (S':Mi) (cur' old':Nat->Int),v=.tuple [I n',I e]/\Ann h h' ar m S F S' cur' old':=by
 obtain⟨e,rfl⟩:∃k,d=k+1:=⟨d-1,by omega⟩;have s:=Zf hr;rw[Am9 A (by omega)];simp only[Ajv,Aa];have E:Ext h (h.new (.cells [I x,I y,I z,.ptr b 0] 163)):=Ar.new _ _;have P:(h.new (.cells [I x,I y,I z,.ptr b 0] 163)).get h.next=some (.cells [I x,I y,I z,.ptr b 0] 163):=Ac _ _
 have ab:(h.new (.cells [I x,I y,I z,.ptr b 0] 163)).next=h.next+1:=rfl
 generalize h.new (.cells [I x,I y,I z,.ptr b 0] 163)=h1 at E P ab⊢;have f:=E.hb hb;have l1:=f _ _ P;have la:=f _ _ (E.at hb hA);rw[Ah l1 (by kernel_rfl),C8 P rfl,Am (n:=4) rfl]
 try simp only[Aa,Aw]
 have u:=mp.frame (E.get _ (hb _ _ mp.map) id) (E.get _ (hb _ _ mp.row) id) (E.get _ (hb _ _ mp.live) id);refine Ok.Ds (by kernel_rfl) (by kernel_rfl) ((Aqw (K:=K) A (d:=e) (by omega) (by omega) s (u.frame (By _ _) (By _ _) (By _ _)) (Du f) x y z)) (fun _ _ p=>p.2.1) ?_;rintro _ al h2 ⟨rfl,_⟩ _ G;have U:=G.hb f;have stop:∀h2,Ext h h2->Ann h h2 ar m S F S cur Cr:=fun h2 x=>⟨Mk.refl _,an,(M.ext hb x).less fun j (hj:F j)=>Or.inl hj,x.at hb hA,Ext.to x,x.hb hb⟩
 cases hR:snR x y z es with
 | false=>
  simp only[Aa,Ad,Aw,On];exact .ret ⟨0,10,_,_,_,rfl,stop _ (E.trans G)⟩
 | true=>
 have g2:=G.at f P;simp only[Aa,Ad,Aw];rw[Ah l1 (by kernel_rfl),Aj g2 rfl (v:=.ptr b 0) rfl]
 try simp only[Aa,Aw]
 have ad:=u.frame (G.get _ (f _ _ u.map) id) (G.get _ (f _ _ u.row) id) (G.get _ (f _ _ u.live) id);refine Ok.Ds (by kernel_rfl) (by kernel_rfl) ((Af4 (K:=K) (ad.frame (By _ _) (By _ _) (By _ _)) (Du U)).mono fun _ _ a=>(⟨a.1,a.2.1⟩:_/\_)) (fun _ _ p=>p.2) ?_;rintro _ aq h3 ⟨rfl,_⟩ _ x3;have V:=x3.hb U;have J:Ext h h3:=(E.trans G).trans x3;have af:=J.at hb hA
 try simp only[Aa,Aw]
 rw[Ah la (by kernel_rfl),Aj af rfl (v:=.ptr m 0) rfl]
 try simp only[Aa,Aw]
 have M3:=(M.ext hb J).less fun j (hj:F j)=>Or.inl hj
 refine Ok.Ds (by kernel_rfl) (by kernel_rfl) (Nj (K:=K) (M3.same (Aot.lift _)) (Du V)) (fun _ _ p=>p.2) ?_;rintro _ ax h4 ⟨rfl,_⟩ _ x4;have ah:=x4.hb V
 try simp only[Aa,Aw]
 rw[Bn8];simp only[On,Aa,Acv];have o:Ext h h4:=J.trans x4;have W:Ext h1 h4:=(G.trans x3).trans x4;have M4:Da h4 m S (fun j=>F j\/j=h.next):=(M.ext hb o).less fun j hj=>by
  rcases hj with hj|hj
  ·exact .inl hj
  ·have:=W.next
   exact .inr ⟨by omega,by omega⟩
 have lA:=hb _ _ hA;have ai:=mp.frame (o.get _ (hb _ _ mp.map) id) (o.get _ (hb _ _ mp.row) id) (o.get _ (hb _ _ mp.live) id);refine(A9h (K:=K) (F:=fun j=>F j\/j=h.next) A hK (.inl fA) ⟨.inl fb.1,.inl fb.2.1,.inl fb.2.2.1,fb.2.2.2⟩ (d:=e) (by omega) hR (t:=h.next) (.inr rfl) (by omega) K 0 0 h4 S cur Cr (by omega) (by omega) (by omega) M4 ah (o.at hb hA) (W.at f P) ai hr hs an).mono ?_;rintro _ h5 ⟨n',e',S',cur',old',rfl,a⟩;have O:=a.less (F':=F) fun i=>.inl
 exact⟨n',e',S',cur',old',rfl,⟨O.kk,O.an,O.M,O.A,(Ext.to o).trans O.c,O.hb⟩⟩
end
theorem Bni(hi:i<3)(h:Ab):Ate K (I i) h=some (.bool true,h):=by
 simp only[Ate,Awi,I,Ad];have e1:decide (0<=(i:Int))=true:=by simp
 have e2:decide ((i:Int)<3)=true:=by simp;omega
 simp only[e1,e2,Aa,Ad]
section
variable(M:Da h m S F)(hb:HB h)(hA:h.get ar=some (.cells (arC m cur Cr) 212))
include M hb hA
theorem Bb8{z:Int}(a:z = -1\/Ej S.g z=i):Ok (Qd K (.ptr ar 0) (I i) (I z) h) fun v h'=>v=.bool true/\Ext h h':=by
 simp only[Qd,I,Ad];have sm:=M.wf.sm;by_cases h1:z = -1
 ·simp only[h1,aB,Aa,Ad,U4]
  exact .ret ⟨rfl,Ar.refl _⟩
 ·simp only[h1,aA,Aa,Ad,U4]
  rw[Aj hA rfl (v:=.ptr m 0) rfl];refine(Nj (K:=K) M hb).Ap ?_;rintro _ h2 ⟨rfl,f⟩;have hd:=a.resolve_left h1;refine(Jv (K:=K) sm z (Aj5 sm (by omega)) h2).Ap ?_;rintro _ n ⟨rfl,j⟩;simp only[I,Ad,hd,aB,Aa];exact .ret ⟨rfl,f.trans j⟩
theorem Bou(fA:F ar)(hi:i<3){v w:Int}(G:v = -1\/Ej S.g v=i)(hw:w = -1\/Ej S.g w=i)(J:¬v=w):Ok (Sq K (.ptr ar 0) (I i) (I v) (I w) h) fun r h'=>r=I 0/\Da h' m S F/\h'.get ar=some (.cells (arC m (N3 cur i v) (N3 Cr i w)) 212)/\Ar (fun j=>j=ar) h h'/\HB h':=by
 simp only[Sq,Bni hi,Aa,Ad];refine(Bb8 (K:=K) M hb hA G).Ap ?_;rintro _ h2 ⟨rfl,o⟩;have a:=o.hb hb;have M2:=(M.ext hb o).less fun j (hj:F j)=>Or.inl hj
 simp only[Aa,Ad,Ah3];refine(Bb8 (K:=K) M2 a (o.at hb hA) hw).Ap ?_;rintro _ p ⟨rfl,u⟩;have f:=u.hb a;have x:Ext h p:=o.trans u;have O:=(M.ext hb x).less fun j (hj:F j)=>Or.inl hj
 have n:=x.at hb hA;have E:=f _ _ n;simp only[Aa,Ad,Af8,I,J,aA,Ahj,Ahd,Ag0,Agu];rw[Az (l:=[I v,I w]) rfl]
 try simp only[Aa]
 rw[Z6 hi];refine Ok.st (arC m (N3 cur i v) (N3 Cr i w)) n rfl rfl (A8v hi v w) ?_;have c:Ar (fun j=>j=ar) p (p.put ar (.cells (arC m (N3 cur i v) (N3 Cr i w)) 212)):=(Ar.refl (S:=fun j=>j=ar) p).Ak (.inl rfl) E _;exact .ret ⟨rfl,O.Ai3 c fun j hj _=>hj▸fA,Ae _ _ _,(Ext.to x).trans c,f.put E _⟩
end
end
structure Co where
 S:Mi
 cur:Nat->Int
 Cr:Nat->Int
 es:List Me
 gen:Int
 ep:Int
 nx:Int
 st:Bool
structure Cb where
 c:Nat
 ar:Nat
 m:Nat
 b:Nat
 ml:Nat
 ll:Nat
def Cb.own(B:Cb)(i:Nat):Prop:=i=B.c\/i=B.ar\/i=B.b\/i=B.ml\/i=B.ll
def Cb.fr(B:Cb)(F:Nat->Prop)(i:Nat):Prop:=F i\/B.own i
def Co.cells(B:Cb)(X:Co):List EV:=[.ptr B.m 0,.ptr B.ar 0,.ptr B.b 0,I X.gen,I X.ep,I X.nx,.bool X.st]
structure Co.Wf(X:Co):Prop where
 rt:rtB X.S.g=true
 an:Af1 X.S X.cur X.Cr
 sz:0<X.S.dr.dv.size
structure Eb(h:Ab)(B:Cb)(X:Co)(F:Nat->Prop):Prop where
 M:Da h B.m X.S (B.fr F)
 core:h.get B.c=some (.cells (X.cells B) 130)
 ar:h.get B.ar=some (.cells (arC B.m X.cur X.Cr) 212)
 map:Q0 h B.b B.ml B.ll X.S.g X.es
 wf:X.Wf
 out:∀i,F i->¬B.own i
 hb:HB h
def Ck(X Y:Co):Prop:=Mk X.S Y.S
theorem Ck.refl(X:Co):Ck X X:=Mk.refl _
theorem Ck.trans {X Y Z:Co}(a:Ck X Y)(b:Ck Y Z):Ck X Z:=Mk.trans a b
structure Hc(h h':Ab)(B:Cb)(X:Co)(F:Nat->Prop)(Y:Co):Prop where
 C:Eb h' B Y F
 k:Kf F h h'
 ck:Ck X Y
section
variable {h':Ab}{B:Cb}{X Y:Co}
theorem Eb.ne(C:Eb h B X F):B.c≠B.ar/\B.c≠B.b/\B.c≠B.ml/\B.c≠B.ll/\B.ar≠B.b/\B.ar≠B.ml/\B.ar≠B.ll/\B.b≠B.ml/\B.b≠B.ll/\B.ml≠B.ll:=
 ⟨Be C.core C.ar (by simp),Be C.core C.map.map (by simp),Be C.core C.map.row (by simp),Be C.core C.map.live (by simp),Be C.ar C.map.map (by simp),Be C.ar C.map.row (by simp),Be C.ar C.map.live (by simp),
  Be C.map.map C.map.row (by simp),Be C.map.map C.map.live (by simp),Be C.map.row C.map.live (by simp)⟩
theorem Eb.sm(C:Eb h B X F):Sm X.S.g:=C.M.wf.sm
theorem Hc.refl(C:Eb h B X F):Hc h h B X F X:=⟨C,Ar.refl _,Ck.refl _⟩
theorem Hc.trans {f:Ab}{X Y Z:Co}(a:Hc h1 h2 B X F Y)(b:Hc h2 f B Y F Z):Hc h1 f B X F Z:=⟨b.C,a.k.trans b.k,a.ck.trans b.ck⟩
theorem Hc.hb(a:Hc h h' B X F Y):HB h':=a.C.hb
theorem Da.kp(M:Da h m S F)(k:Kp T h h'):Da h' m S (Bh F h h'):=by
 refine⟨(M.s.frame k.chg.next fun i hi=>k.same i hi.1).mono (fun i hi=>⟨aL hi.1 k.chg.next,fun y=>?_⟩) fun i hi=>hi.1,Bh.lt M.lt k.chg.next,M.wf⟩;rcases y with y|y
 ·exact hi.2 y
 ·have:=hi.1;omega
theorem Eb.kp(C:Eb h B X F)(k:Kp T h h'):Eb h' B X (Bh F h h'):=by
 refine⟨(C.M.kp k).less fun i hi=>?_,k.at C.hb C.core,k.at C.hb C.ar,C.map.ext fun i o g=>k.at C.hb g,C.wf,fun i hi=>?_,k.chg.hb C.hb⟩
 ·rcases hi with(hi|hi)|hi
  ·exact .inl (.inl hi)
  ·exact .inr hi
  ·exact .inl (.inr hi)
 ·rcases hi with hi|hi
  ·exact C.out i hi
  ·intro y
   have a:=C.hb _ _ C.core;have f:=C.hb _ _ C.ar;have a3:=C.hb _ _ C.map.map;have a4:=C.hb _ _ C.map.row;have a5:=C.hb _ _ C.map.live;rcases y with y|y|y|y|y<;>omega
theorem Eb.less(C:Eb h B X F)(s:∀i,F' i->F i):Eb h B X F':=
 ⟨C.M.less fun i hi=>hi.imp (s i) id,C.core,C.ar,C.map,C.wf,fun i hi=>C.out i (s i hi),C.hb⟩
theorem Eb.ext(C:Eb h B X F)(x:Ext h h'):Eb h' B X (Bh F h h'):=C.kp (T:=fun _=>False) (Ext.kp x)
theorem Eb.toE(C:Eb h B X F)(x:Ext h h'):Hc h h' B X F X:=⟨(C.ext x).less fun _=>.inl,Ext.kf x,Ck.refl _⟩
theorem Eb.toK(C:Eb h B X F)(k:Kp T h h')(t:∀i,T i->¬F i):Hc h h' B X F X:=⟨(C.kp k).less fun _=>.inl,k.chg.mono t,Ck.refl _⟩
theorem Co.Wf.Iv(w:X.Wf)(mk:Mk X.S S'):({ X with S:=S' }:Co).Wf:=⟨by show rtB S'.g=true;rw[mk.g];exact w.rt,w.an.of mk.g,by show 0<S'.dr.dv.size;rw[mk.dr.size];exact w.sz⟩
theorem Eb.Iv(C:Eb h B X F)(f:Da h' B.m S' (B.fr F))(k:Kf (B.fr F) h h')(a:HB h')(mk:Mk X.S S'):Hc h h' B X F { X with S:=S' }:=by
 have g:S'.g=X.S.g:=mk.g;exact⟨⟨f,k.at C.hb C.core (.inr (.inl rfl)),k.at C.hb C.ar (.inr (.inr (.inl rfl))),by
  show Q0 h' B.b B.ml B.ll S'.g X.es;rw[g];exact C.map.frame (k.get _ (C.hb _ _ C.map.map) fun y=>y (.inr (.inr (.inr (.inl rfl))))) (k.get _ (C.hb _ _ C.map.row) fun y=>y (.inr (.inr (.inr (.inr (.inl rfl)))))) (k.get _ (C.hb _ _ C.map.live) fun y=>y (.inr (.inr (.inr (.inr (.inr rfl)))))),
  C.wf.Iv mk,C.out,a⟩,k.less fun _=>.inl,mk⟩
theorem Eb.Bpe(C:Eb h B X F){cur' old':Nat->Int}(f:Da h' B.m S' (B.fr F))(hA:h'.get B.ar=some (.cells (arC B.m cur' old') 212))(c:Ar (fun j=>¬B.fr F j\/j=B.ar) h h')(a:HB h')(mk:Mk X.S S')(an:Af1 S' cur' old'):
 Hc h h' B X F { X with S:=S',cur:=cur',Cr:=old' }:=by
 have g:S'.g=X.S.g:=mk.g;obtain⟨n1,E,n3,n4,n,o,p,G,J,u⟩:=C.ne;have kp:∀i,B.own i->i≠B.ar->¬(¬B.fr F i\/i=B.ar):=fun i hi v y=>y.elim (fun y=>y (.inr hi)) v
 exact⟨⟨f,c.at C.hb C.core (kp _ (.inl rfl) n1),hA,by
  show Q0 h' B.b B.ml B.ll S'.g X.es;rw[g];exact C.map.frame (c.get _ (C.hb _ _ C.map.map) (kp _ (.inr (.inr (.inl rfl))) n.symm)) (c.get _ (C.hb _ _ C.map.row) (kp _ (.inr (.inr (.inr (.inl rfl)))) o.symm)) (c.get _ (C.hb _ _ C.map.live) (kp _ (.inr (.inr (.inr (.inr rfl)))) p.symm)),
  ⟨by show rtB S'.g=true;rw[g];exact C.wf.rt,an,by show 0<S'.dr.dv.size;rw[mk.dr.size];exact C.wf.sz⟩,C.out,a⟩,
  c.mono fun i hi y=>hi.elim (fun w=>w (.inl y)) fun w=>C.out i y (w▸.inr (.inl rfl)),mk⟩
theorem Eb.Bp4(C:Eb h B X F){a:List Me}(mp:Q0 h' B.b B.ml B.ll X.S.g a)(c:Ar (fun i=>i=B.ml\/i=B.ll) h h')(f:HB h'):Hc h h' B X F { X with es:=a }:=by
 obtain⟨n1,u,n3,n4,v,n,o,E,G,p⟩:=C.ne;have j:∀i,i=B.ml\/i=B.ll->B.own i:=fun i hi=>hi.elim (fun y=>.inr (.inr (.inr (.inl y)))) fun y=>.inr (.inr (.inr (.inr y)))
 exact⟨⟨C.M.Ai3 c fun i hi _=>.inr (j i hi),c.at C.hb C.core fun y=>y.elim n3 n4,c.at C.hb C.ar fun y=>y.elim n o,mp,⟨C.wf.rt,C.wf.an,C.wf.sz⟩,C.out,f⟩,c.mono fun i hi y=>C.out i y (j i hi),Mk.refl _⟩
theorem Eb.Bg0(C:Eb h B X F)(g e n:Int)(s:Bool):Hc h (h.put B.c (.cells (({ X with gen:=g,ep:=e,nx:=n,st:=s }:Co).cells B) 130)) B X F { X with gen:=g,ep:=e,nx:=n,st:=s }:=by
 obtain⟨n1,a,n3,n4,j,o,p,u,v,f⟩:=C.ne;have l:=C.hb _ _ C.core;have c:Ar (fun i=>i=B.c) h (h.put B.c (.cells (({ X with gen:=g,ep:=e,nx:=n,st:=s }:Co).cells B) 130)):=(Ar.refl (S:=fun i=>i=B.c) h).Ak (.inl rfl) l _;exact⟨⟨C.M.Ai3 c fun i hi _=>.inr (.inl hi),Ae _ _ _,by rw[Af _ n1];exact C.ar,C.map.frame (Af _ a) (Af _ n3) (Af _ n4),⟨C.wf.rt,C.wf.an,C.wf.sz⟩,C.out,C.hb.put l _⟩,c.mono fun i hi y=>C.out i y (.inl hi),Mk.refl _⟩
theorem Eb.Ai3(C:Eb h B X F)(c:Ar T h h')(t:∀i,T i->i<h.next->F i)(a:HB h'):Eb h' B X F:=by
 have no:∀i,B.own i->i<h.next->¬T i:=fun i hi f y=>C.out i (t i y f) hi
 have l1:=C.hb _ _ C.core;have p:=C.hb _ _ C.ar;have j:=C.hb _ _ C.map.map;have n:=C.hb _ _ C.map.row;have o:=C.hb _ _ C.map.live;exact⟨C.M.Ai3 c fun i hi f=>.inl (t i hi f),c.at C.hb C.core (no _ (.inl rfl) l1),c.at C.hb C.ar (no _ (.inr (.inl rfl)) p),
  C.map.frame (c.get _ j (no _ (.inr (.inr (.inl rfl))) j)) (c.get _ n (no _ (.inr (.inr (.inr (.inl rfl)))) n)) (c.get _ o (no _ (.inr (.inr (.inr (.inr rfl)))) o)),C.wf,C.out,a⟩
end
section
variable{B:Cb}{X:Co}(C:Eb h B X F)
include C
theorem Eb.ldM(k:EV->R):Dr (.ptr B.c 0) h k=k (.ptr B.m 0):=Aj C.core rfl rfl
theorem Eb.ldA(k:EV->R):Dr (.ptr B.c 1) h k=k (.ptr B.ar 0):=Aj C.core rfl rfl
theorem Eb.ldB(k:EV->R):Dr (.ptr B.c 2) h k=k (.ptr B.b 0):=Aj C.core rfl rfl
theorem Eb.ldG(k:EV->R):Dr (.ptr B.c 3) h k=k (I X.gen):=Aj C.core rfl rfl
theorem Eb.ldE(k:EV->R):Dr (.ptr B.c 4) h k=k (I X.ep):=Aj C.core rfl rfl
theorem Eb.ldN(k:EV->R):Dr (.ptr B.c 5) h k=k (I X.nx):=Aj C.core rfl rfl
theorem Eb.ldS(k:EV->R):Dr (.ptr B.c 6) h k=k (.bool X.st):=Aj C.core rfl rfl
end
end Go.Ev
