import Derived.Test.YtokpnommcenoaaaGreatCa
import Derived.Test.YtokpnommcenoaaaGreatVb
set_option linter.all false
namespace Go.Ev
open Go.Proofs
set_option maxRecDepth 100000
variable {h h0 h1 h2:Ab}{K b d i m q t ar ml sz:Nat}{e:TypeId}{k:EV->Ab->R}{Q:EV->Ab->Prop}{x y zn:Int}{es:List Me}{g:Gm}{L:List Fr}{S S':Mi}{F T F':Nat->Prop}{Cv cur:Nat->Int}{disp:Nat->Option FT}
section
def An6(h:Ab)(s:EV)(q:Nat)(e:TypeId)(sz len:Nat)(l:List EV):Prop:=
 Cc h s q e sz len l\/(len=1/\s=.slice q 0 1 1 false/\h.get q=some (.cells l e)/\l.length=sz)
theorem An6.frame {h':Ab}{s:EV}{len:Nat}{l:List EV}(r:An6 h s q e sz len l)(g:0<len->h'.get q=h.get q):An6 h' s q e sz len l:=by
 rcases r with r|⟨a,b,c,d⟩
 ·exact .inl (r.frame g)
 ·exact .inr ⟨a,b,by rw[g (by omega)];exact c,d⟩
theorem An6.lt{s:EV}{len:Nat}{l:List EV}(r:An6 h s q e sz len l)(hb:HB h)(f:0<len):q<h.next:=by
 rcases r with r|⟨a,b,c,d⟩
 ·exact hb _ _ (r.block f)
 ·exact hb _ _ c
theorem Bdk{s v:EV}{len:Nat}{l z:List EV}(r:An6 h s q e sz len l)(hb:HB h)(f:v.plain=true)(j:z.length=sz)(a:v.cells.length=sz)(hs:sz<=65536)(p:len<=65535)
 (n:∀h',Cc h' (.slice (h.next+1) 0 (len+1) (len+1) true) (h.next+1) e sz (len+1) (l++v.cells)->h'.next=h.next+2->Au (fun i=>0<len/\i=q) h h'->Ok (k (.slice (h.next+1) 0 (len+1) (len+1) true) h') Q) :
 Ok (Am (Bz z e sz 1 [(0,v)] h) fun w h=>Am (Ef e sz s w h) k) Q:=by
 rcases r with r|⟨rfl,rfl,g,ll⟩
 ·exact L0 r hb f j a hs (by omega) n
 ·rw[Sl f j a hs,Ap]
  have o:(h.new (.cells v.cells e)).get q=some (.cells l e):=by rw[Ay _ (hb _ _ g)];exact g
  have c1:=X2 (sz:=sz) (Ad h (.cells v.cells e)) a;have c2:=X2 (sz:=sz) o ll;have e1:Ef e sz (.slice q 0 1 1 false) (.slice h.next 0 1 1 false) (h.new (.cells v.cells e))=some (.slice (h.next+1) 0 2 2 true,(h.new (.cells v.cells e)).new (.vec (l++v.cells) e sz)):=by
   unfold Ef;simp only[lenOf,Gr,c1,c2,Axc];rfl
  rw[e1,Ap];refine n _ (.inr ⟨by omega,rfl,Ad _ _,by rw[aG,ll,a];omega⟩) rfl ((Au.new _ _).C8 _)
def Biw(L:List Fr):Prop:=∀f∈L,f.Wf/\frB f=true
theorem Bbb(a b c d e:EV){x y:List EV}(h:x.length=y.length):Mh ([a,b,c,d,e]++x) 5 y=some ([a,b,c,d,e]++y):=by
 rw[Amn (by rw[aG,h];exact aD _)];have:([a,b,c,d,e]++x).drop (5+y.length) = []:=ct (by rw[aG,h];exact aD _);rw[this,cS];rfl
theorem Bpc{l:List Nat}(a:l.length=44):Aca (Dg [(0,1),(1,1),(2,1),(3,1),(4,1),(5,44)]) [(0,EV.int .i64 4),(1,I zn),(3,I y),(4,I x),(5,.agg (Bk l))] (List.replicate 5 (EV.int .i64 0)++List.replicate 44 (EV.int .u8 0))=some (Fr.mk 4 zn 0 y x l).cells:=by
 show Ax (Nat.beq (Fl (Bk l)) 44) (oB (fun z=>some z) (Mh ([I 4,I zn,I 0,I y,I x]++List.replicate 44 (.int .u8 0)) 5 (Bk l))) none=_;rw[Bf,Bg,a,Bbb _ _ _ _ _ (by rw[Bg,a,bT])];rfl
theorem Bsn {z:Int}(h:snR x y z es=true):(1<=x/\x<=281474976710655)/\(1<=y/\y<=4294967295)/\1<=z/\z<=281474976710655:=by
 unfold snR at h;simp only[bL,bM]at h;exact⟨h.1,h.2.1,h.2.2.1.1,h.2.2.1.2⟩
section
variable (H:Bw disp)
theorem Ba5(hK:1000<K){c r:Ai}{ll f:Nat}(s:Sm g)(m:Lj h0 b ml ll g es)(o:HB h0){z:Int}(x0:1<=x)(x1:x<=281474976710655)(y0:1<=y)(y1:y<=4294967295)(z0:0<=zn)(z1:zn<=65535)(lt:h0.next<=t)(lf:h0.next<=f)(tf:t≠f):
 ∀(n i:Nat) (h:Ab) (v:EV) (q:Nat) (L:List Fr) (F:Fr),g.parts.toNat-i<n->1<=i->i<=g.parts->Ext h0 h->HB h->h.get t=some (.cells [I x,I y,I z,.ptr b 0] 163)->h.get f=some (.cells F.cells 247)->F.Wf->F.An=zn->F.As=y->F.seq=x->L.length=i->Biw L->An6 h v q 247 49 i (L.map Fr.cells).flatten->h0.next<=q->q≠t->q≠f ->
 Ok (Ss c r K n (.ptr t 0) (.ptr f 0) v (I i) h) fun w h'=>∃v q L,w=.tuple [v,I 0]/\An6 h' v q 247 49 L.length (L.map Fr.cells).flatten/\h0.next<=q/\(L.length:Int)=g.parts/\Biw L/\Ext h0 h'/\HB h':=by
 have:=s.b0;have:=s.b1;have hp:2<=g.parts/\g.parts<=200:=by unfold Gm.parts;omega
 intro n;induction n with
 | zero=>intro i h v q L F hn;omega
 | succ n ih=>
  intro i h v q L F hn i1 hi V hb gt gf w fz fe fs hL hI row lq qt qf;rw[Ss];simp only[Aa];rw[Ah gt rfl (v:=.ptr b 0) rfl];have mh:=m.frame (V.get _ (o _ _ m.map) id) (V.get _ (o _ _ m.row) id) (V.get _ (o _ _ m.live) id);refine(Ih (K:=K) mh hb).Am ?_;rintro _ h2 ⟨rfl,x2,bp⟩;rw[Aaz s,Ap];have P:Ext h (h2.new (.cells (gL g) 23)):=x2.C8 _;generalize h2.new (.cells (gL g) 23)=h3 at P⊢;have u:=P.hb hb;have W:=P.at hb gt;have ao:=P.at hb gf;have E:=row.frame (h':=h3) fun y=>P.get _ (row.lt hb y) id
  simp only[I,Ac];by_cases aa:(i:Int)<g.parts
  ·simp only[aa,aB,Aa,Apo]
   rw[Cy W rfl,Ak (n:=4) rfl];simp only[Aa];have G:Ext h0 h3:=V.trans P;refine(A7k hK s (m.frame (G.get _ (o _ _ m.map) id) (G.get _ (o _ _ m.row) id) (G.get _ (o _ _ m.live) id)) u (by omega) (by omega)).Am ?_;rintro _ h4 ⟨⟨l,rfl,hl,hu⟩,x4,au⟩;have ab:=x4.at u ao;have l4:=au _ _ ab;have ax:Ext h0 h4:=G.trans x4;have ad:=E.frame (h':=h4) fun y=>x4.get _ (E.lt u y) id
   have ay:=x4.at u W;refine Ok.st1 ab rfl rfl (by rw[Fr.Az w];decide) ?_;refine Ok.st1 (Ae _ _ _) rfl rfl (by rw[bV,Fr.Az w];decide) ?_;have e5:((F.cells.set 0 (.int .i64 5)).set 2 (.int .i64 (i:Int))) = [I 5,I F.An,I i,I F.As,I F.seq]++Bk F.body:=rfl;rw[e5];refine Ok.st ([I 5,I F.An,I i,I F.As,I F.seq]++Bk l) (Ae _ _ _) rfl (by show Fl (Bk l)=44;rw[Bf,Bg,hl]) (Bbb (y:=Bk l) _ _ _ _ _ (by rw[Bg,Bg,w.len,hl])) ?_;have x5:Ext h0 (((h4.put f (.cells (F.cells.set 0 (.int .i64 5)) 247)).put f (.cells ([I 5,I F.An,I i,I F.As,I F.seq]++Bk F.body) 247)).put f (.cells ([I 5,I F.An,I i,I F.As,I F.seq]++Bk l) 247)):=((ax.Ao (.inr lf) l4 _).Ao (.inr lf) l4 _).Ao (.inr lf) l4 _;have J:(((h4.put f (.cells (F.cells.set 0 (.int .i64 5)) 247)).put f (.cells ([I 5,I F.An,I i,I F.As,I F.seq]++Bk F.body) 247)).put f (.cells ([I 5,I F.An,I i,I F.As,I F.seq]++Bk l) 247)).get f=some (.cells (Fr.mk 5 F.An i F.As F.seq l).cells 247):=Ae _ _ _;have U:(((h4.put f (.cells (F.cells.set 0 (.int .i64 5)) 247)).put f (.cells ([I 5,I F.An,I i,I F.As,I F.seq]++Bk F.body) 247)).put f (.cells ([I 5,I F.An,I i,I F.As,I F.seq]++Bk l) 247)).get t=some (.cells [I x,I y,I z,.ptr b 0] 163):=by
    rw[Af _ (cT tf),Af _ (cT tf),Af _ (cT tf)];exact ay
   have O:=ad.frame (h':=(((h4.put f (.cells (F.cells.set 0 (.int .i64 5)) 247)).put f (.cells ([I 5,I F.An,I i,I F.As,I F.seq]++Bk F.body) 247)).put f (.cells ([I 5,I F.An,I i,I F.As,I F.seq]++Bk l) 247))) fun y=>by
    rw[Af _ (cT qf),Af _ (cT qf),Af _ (cT qf)]
   generalize (((h4.put f (.cells (F.cells.set 0 (.int .i64 5)) 247)).put f (.cells ([I 5,I F.An,I i,I F.As,I F.seq]++Bk F.body) 247)).put f (.cells ([I 5,I F.An,I i,I F.As,I F.seq]++Bk l) 247))=h5 at x5 J U O⊢;have p:=x5.hb o;have w5:(Fr.mk 5 F.An i F.As F.seq l).Wf:=⟨hl,hu⟩;rw[Cn J rfl (Ak (Fr.Az w5))];refine Bdk O p rfl rfl (Fr.Az w5) (by omega) (by omega) ?_;intro h6 ae n6 c6;simp only[Aqe,I,Ac];rw[Cg,show((i:Nat):Int)+1=((i+1:Nat):Int) by omega];have t5:=p _ _ U;have f5:=p _ _ J;refine ih (i+1) h6 _ (h5.next+1) (L++[Fr.mk 5 F.An i F.As F.seq l]) _ (by omega) (by omega) (by omega) (x5.then c6 fun j hj a=>by omega) (c6.hb p) (c6.at p U fun y=>qt y.2.symm) (c6.at p J fun y=>qf y.2.symm) w5 fz fe fs (by rw[aG,hL];rfl) ?_ ?_ (by have:=x5.next;omega) (by omega) (by omega)
   ·intro fr az
    rcases bP.1 az with y|y
    ·exact hI fr y
    ·rw[aP]at y
     subst y;refine⟨w5,?_⟩;simp only[frB,wi,bL,bM,fz,fe,fs];omega
   ·rw[bm,cj,show([Fr.mk 5 F.An i F.As F.seq l].map Fr.cells).flatten=(Fr.mk 5 F.An i F.As F.seq l).cells from cS _];exact .inl ae
  ·simp only[aa,aA,Aa,Ap6]
   exact .ret ⟨v,q,L,rfl,by rw[hL];exact E,lq,by rw[hL];omega,hI,V.trans P,u⟩
include H
theorem A4c(hd:7<=d)(hK:1000<K){ll:Nat}(hr:rtB g=true)(m:Lj h b ml ll g es)(hb:HB h){z:Int}(hR:snR x y z es=true)(n0:0<=zn)(n1:zn<g.D*g.Z):
 Ok (Ag TT disp K d false 296 [.agg [I x,I y,I z,.ptr b 0],I zn] h) fun w h'=>∃v q L,w=.tuple [v,I 0]/\An6 h' v q 247 49 L.length (L.map Fr.cells).flatten/\h.next<=q/\(L.length:Int)=g.parts/\Biw L/\Ext h h'/\HB h':=by
 have s:=Ul hr;obtain⟨⟨x0,x1⟩,⟨y0,y1⟩,z0,z1⟩:=Bsn hR;have:=s.b0;have:=s.b1;have:=s.s0;have:=s.d0;have:=s.d1;have:=s.z0;have:=s.z1;obtain⟨m0,m1⟩:=N3 (a:=g.D) (b:=g.Z) (A:=8) (B:=64) (by omega) (by omega) (by omega) (by omega);obtain⟨e,rfl⟩:∃k,d=k+1:=⟨d-1,by omega⟩;rw[Ano H (by omega)];simp only[Apm,Aa];obtain⟨h1,e_,w1,g1,a7⟩:=nW h (.cells [I x,I y,I z,.ptr b 0] 163);rw[e_];have o:=w1.hb hb;have u:=m.frame (w1.get _ (hb _ _ m.map) id) (w1.get _ (hb _ _ m.row) id) (w1.get _ (hb _ _ m.live) id);rw[Cy g1 rfl,Ak (n:=4) rfl];simp only[Aa];refine(Ajn (K:=K) H (d:=e) (by omega) hK s u o x y z).Am ?_;rw[hR];rintro _ h2 ⟨rfl,U,E⟩;have g2:=U.at o g1;simp only[Aa,Ac];rw[Ah g2 rfl (v:=.ptr b 0) rfl];have W:=u.frame (U.get _ (o _ _ u.map) id) (U.get _ (o _ _ u.row) id) (U.get _ (o _ _ u.live) id);refine(Ih (K:=K) W E).Am ?_;rintro _ h3 ⟨rfl,x3,aa⟩;refine(Aav (K:=K) (g:=g) aa zn 0).Am ?_;rintro _ h4 ⟨rfl,x4⟩;have hh:Y6 g zn 0=true:=by
  simp only[Y6,hr,wi,bD,bL,bM];omega
 rw[hh];have G:=x4.hb aa;simp only[Aa,Yj,Aoz];have j:Ext h2 h4:=x3.trans x4;have g4:=j.at E g2;have l4:=G _ _ g4;have m4:=W.frame (j.get _ (E _ _ W.map) id) (j.get _ (E _ _ W.row) id) (j.get _ (E _ _ W.live) id);rw[Gy l4,Ah g4 rfl (v:=I y) rfl]
 try simp only[Aa,Ar]
 rw[Gy l4,Ah g4 rfl (v:=I x) rfl]
 try simp only[Aa,Ar]
 rw[Gy l4,Cy g4 rfl,Ak (n:=4) rfl]
 try simp only[Aa,Ar]
 refine Ok.bE (P:=fun v h'=>Ats v/\Ext h4.lift h') ((A7h hK s (m4.frame (Br _ _) (Br _ _) (Br _ _)) (Da G) (by omega) (by omega)).mono fun _ _ a=>⟨a.1,a.2.1⟩) (fun _ _ p=>p.2) ?_;rintro _ bj h5 ⟨⟨l,rfl,hl,hu⟩,_⟩ _ x5;have J:=x5.hb G;have g5:=x5.at G g4;have w5:(Fr.mk 4 zn 0 y x l).Wf:=⟨hl,hu⟩;rw[Aw (l:=(Fr.mk 4 zn 0 y x l).cells) ?_]
 ·simp only[Aa,Ar]
  rw[Gh];refine Ok.stW (xs:=(Fr.mk 4 zn 0 y x l).cells) (Ad _ _) (by simp) (Fr.Az w5) ?_;obtain⟨V,e_,x6,g6,n6⟩:=nP h5 (.cells (List.replicate 5 (EV.int .i64 0)++List.replicate 44 (.int .u8 0)) 247) (.cells (Fr.mk 4 zn 0 y x l).cells 247);rw[e_];have O:=x6.hb J;rw[Cy g6 rfl,Ak (Fr.Az w5)];simp only[Aa];rw[Sl (v:=.agg (Fr.mk 4 zn 0 y x l).cells) rfl (by simp) (Fr.Az w5) (by omega),Ap];have x7:Ext V (V.new (.cells (Fr.mk 4 zn 0 y x l).cells 247)):=Au.new _ _;have aj:Ext h V:=(((w1.trans U).trans j).trans x5).trans x6;have al:Ext h (V.new (.cells (Fr.mk 4 zn 0 y x l).cells 247)):=aj.trans x7;have k1:=(w1.trans U).next
  have k2:=j.next
  have k3:=x5.next
  have lg:=J _ _ g5;refine Ba5 hK s m hb x0 x1 y0 y1 n0 (by omega) (aD _) (f:=h5.next) (by omega) (by omega) K 1 _ (.slice V.next 0 1 1 false) V.next [Fr.mk 4 zn 0 y x l] (Fr.mk 4 zn 0 y x l) (by unfold Gm.parts;omega) (aD _) (by unfold Gm.parts;omega) al (x7.hb O) (x7.at O (x6.at J g5)) (x7.at O g6) w5 rfl rfl rfl rfl ?_ (.inr ⟨rfl,rfl,?_,?_⟩) (by omega) (by omega) (by omega)
  ·intro fr ad
   rw[aP]at ad;subst ad;refine⟨w5,?_⟩;simp only[frB,wi,bL,bM];omega
  ·rw[show([Fr.mk 4 zn 0 y x l].map Fr.cells).flatten=(Fr.mk 4 zn 0 y x l).cells from cS _];exact Ad _ _
  ·rw[show([Fr.mk 4 zn 0 y x l].map Fr.cells).flatten=(Fr.mk 4 zn 0 y x l).cells from cS _];exact Fr.Az w5
 ·exact Bpc hl
end
end
section
def A04(X:List (List EV)):Prop:=∀x∈X,x.length=64/\U8 x
theorem An6.ix{s:EV}{len:Nat}{l:List EV}(r:An6 h s q e sz len l){j:Nat}(hj:j<len)(k:EV->R):Aal sz s (I j) k=k (.ptr q (j*sz)):=by
 rcases r with r|⟨rfl,rfl,c,d⟩
 ·exact r.ix hj .i64 k
 ·unfold I;rw[N5 hj,bF]
theorem An6.ldN{s:EV}{len n:Nat}{l x:List EV}(r:An6 h s q e sz len l)(f:0<len){o:Nat}(a:Mj l o n=some x)(k:EV->R):Q2 n (.ptr q o) h k=k (.agg x):=by
 rcases r with r|⟨rfl,rfl,c,d⟩
 ·exact Cn (r.block f) rfl a
 ·exact Cn c rfl a
theorem An6.Hc{s:EV}{len:Nat}{l:List EV}(r:An6 h s q e sz len l)(k:EV->R):Ev.Hc s k=k (I len):=by
 rcases r with r|⟨rfl,rfl,c,d⟩
 ·exact r.Hc k
 ·rfl
theorem Bsr(j:Biw L){f:Fr}(a:L[i]? = some f):Mj (L.map Fr.cells).flatten (i*49) 49=some f.cells:=
 Alx (n:=49) _ _ _ (fun x o=>by obtain⟨f,a,rfl⟩:=cY.1 o;exact Fr.Az (j f a).1) (by rw[bA,a];rfl)
theorem A6f(hK:10000<K){c r:Ai}{v3 P:Nat}{fv:EV}(U:Biw L)(hL:L.length<=200)(l3:h0.next<=v3)(lq:h0.next<=P):
 ∀(n i:Nat) (h:Ab) (v:EV) (q:Nat) (X:List (List EV)),L.length-i<n->i<=L.length->Ext h0 h->HB h0->HB h->h.get v3=some (.cells Be 119)->An6 h fv P 247 49 L.length (L.map Fr.cells).flatten->X.length=i->A04 X->Cc h v q 30 64 i X.flatten->(0<i->h0.next<=q/\q≠P/\q≠v3) ->
 Ok (Ql c r K n (.ptr v3 0) v fv (I L.length) (I i) h) fun w h'=>∃v q X,w=.tuple [v,I 0]/\Cc h' v q 30 64 X.length X.flatten/\(0<X.length->h0.next<=q)/\X.length=L.length/\A04 X/\Ext h0 h'/\HB h':=by
 intro n;induction n with
 | zero=>intro i h v q X hn;omega
 | succ n ih=>
  intro i h v q X hn hi V W hb gv rf hX hS row O;rw[Ql];simp only[I,Ac];by_cases o:i<L.length
  ·have:decide ((i:Int)<(L.length:Int))=true:=by simp;omega
   simp only[this,Aa,Amx];have w:(L[i]).Wf:=(U _ (av o)).1;have fr:=(U _ (av o)).2;have e1:=Bsr U (aH o);have ix:=rf.ix o;simp only[I]at ix;rw[ix,rf.ldN (by omega) e1];generalize L[i]=f at w fr e1⊢
   try simp only[Aa]
   refine Ok.mk (by simp) (Fr.Az w) fun h2 x2 g2 _=>?_
   have u:=x2.hb hb;rw[Cy (x2.at hb gv) rfl,Ak (n:=256) Pv];simp only[Aa];rw[Cn g2 rfl (Ak (Fr.Az w))];refine(Am7 w fr u hK).Am ?_;rintro _ h3 ⟨rfl,x3⟩;have ae:=x3.hb u;simp only[Aa];refine Ok.mk (by simp) (by rw[Bg,Aw0 w]) fun h4 x4 g4 _=>?_
   have E:=x4.hb ae;have p:Ext h h4:=(x2.trans x3).trans x4;have el:(Bk (Aat f)).length=64:=by rw[Bg,Aw0 w]
   simp only[I,Ac,aC,aA,Aa,Am4];rw[Cn g4 rfl (Ak el)];have G:=row.frame (h':=h4) fun y=>p.get _ (hb _ _ (row.block y)) id
   refine L0 G E rfl (by simp) el (by omega) (by omega) ?_;intro h5 J n5 c5;simp only[Am9,Ac];rw[Cg,show((i:Nat):Int)+1=((i+1:Nat):Int) by omega];have lv:=hb _ _ gv;have af:=rf.lt hb (by omega);have nx:=p.next
   have c:Au (fun j=>0<i/\j=q) h h5:=(Ext.to p).trans c5;refine ih (i+1) h5 _ (h4.next+1) (X++[Bk (Aat f)]) (by omega) (by omega) (V.then c fun j hj a=>?_) W (c5.hb E) (c.at hb gv fun y=>(O y.1).2.2 y.2.symm) (rf.frame fun _=>c.get _ af fun y=>(O y.1).2.1 y.2.symm) (by rw[aG,hX];rfl) ?_ ?_ (fun _=>⟨by have:=V.next;omega,by omega,by omega⟩)
   ·have:=(O hj.1).1
    have:=hj.2;omega
   ·intro x hx
    rcases bP.1 hx with y|y
    ·exact hS x y
    ·rw[aP]at y
     subst y;exact⟨el,_,Be1 w,rfl⟩
   ·rw[cj,show([Bk (Aat f)]).flatten=Bk (Aat f)from cS _];exact J
  ·have:i=L.length:=by omega
   subst this;have:decide ((L.length:Int)<(L.length:Int))=false:=by simp
   simp only[this,Aa,Ang];exact .ret ⟨v,q,X,rfl,by rw[hX];exact row,fun y=>(O (by omega)).1,hX,hS,V,hb⟩
section
variable (H:Bw disp)
include H
theorem Bco(hd:8<=d)(hK:10000<K){ll:Nat}(hr:rtB g=true)(m:Lj h b ml ll g es)(hb:HB h){z:Int}(hR:snR x y z es=true)(n0:0<=zn)(n1:zn<g.D*g.Z):
 Ok (Ag TT disp K d false 261 [Uh,.agg [I x,I y,I z,.ptr b 0],I zn] h) fun w h'=>∃v q X,w=.tuple [v,I 0]/\Cc h' v q 30 64 X.length X.flatten/\(0<X.length->h.next<=q)/\(X.length:Int)=g.parts/\A04 X/\Ext h h'/\HB h':=by
 have s:=Ul hr;have:=s.b0;have:=s.b1;obtain⟨e,rfl⟩:∃k,d=k+1:=⟨d-1,by omega⟩;rw[Axs H (by omega)];simp only[Au6,Uh,Aa];have w1:Ext h ((h.new (.cells Be 119)).new (.cells [I x,I y,I z,.ptr b 0] 163)):=(Au.new _ _).C8 _;have c1:((h.new (.cells Be 119)).new (.cells [I x,I y,I z,.ptr b 0] 163)).get h.next=some (.cells Be 119):=by rw[Ay _ (aR _)];exact Ad _ _
 have G:((h.new (.cells Be 119)).new (.cells [I x,I y,I z,.ptr b 0] 163)).get (h.next+1)=some (.cells [I x,I y,I z,.ptr b 0] 163):=Ad _ _;have j:((h.new (.cells Be 119)).new (.cells [I x,I y,I z,.ptr b 0] 163)).next=h.next+2:=rfl
 rw[show(h.new (.cells Be 119)).next=h.next+1 from rfl];generalize (h.new (.cells Be 119)).new (.cells [I x,I y,I z,.ptr b 0] 163)=h1 at w1 c1 G j⊢;have a:=w1.hb hb;rw[Cy G rfl,Ak (n:=4) rfl];simp only[Aa];refine(A4c (K:=K) H (d:=e) (by omega) (by omega) hr (m.frame (w1.get _ (hb _ _ m.map) id) (w1.get _ (hb _ _ m.row) id) (w1.get _ (hb _ _ m.live) id)) a hR n0 n1).Am ?_;rintro _ h2 ⟨v,q,L,rfl,row,lq,O,P,J,o⟩;simp only[Aa,I,Ac,aC,aA,Anr];rw[row.Hc];have hp:g.parts<=200:=by unfold Gm.parts;omega
 have p:Ext h h2:=w1.trans J;refine(A6f hK P (by omega) (aD h.next) (by have:=w1.next;omega) K 0 h2 _ 0 [] (by omega) (by omega) p hb o (J.at a c1) row rfl (fun x U=>by cases U) (Cc.nil _ _ _ _) (fun y=>absurd y (bS _))).mono ?_;rintro _ h3 ⟨V,q',X,rfl,f,u,W,hS,xx,E⟩;exact⟨V,q',X,rfl,f,u,by rw[W];exact O,hS,xx,E⟩
end
end
structure Dk(S T:Kx):Prop where
 n:T.dv.n=S.dv.n
 size:T.dv.size=S.dv.size
 op:T.dv.op=S.dv.op
 ev:T.ev.length+T.Pd.length=S.ev.length+S.Pd.length
theorem Dk.refl(S:Kx):Dk S S:=⟨rfl,rfl,rfl,rfl⟩
theorem Dk.trans {S T U:Kx}(a:Dk S T)(b:Dk T U):Dk S U:=⟨b.n.trans a.n,b.size.trans a.size,b.op.trans a.op,b.ev.trans a.ev⟩
def Vk(D E:Dv):Prop:=E.n=D.n/\E.size=D.size/\E.op=D.op
theorem Bqr(D:Dv)(i:Int)(st:Nat):Vk D (D.fail i st):=by
 unfold Dv.fail;split<;>exact⟨rfl,rfl,rfl⟩
theorem Bol(D:Dv)(z off:Int)(p:List EV):Vk D (D.Ayj z off p):=by
 unfold Dv.Ayj;split<;>exact⟨rfl,rfl,rfl⟩
theorem Bh1(D:Dv)(e:Lg):Vk D (D.Si e):=by
 unfold Dv.Si
 repeat' split
 all_goals first|exact Bol _ _ _ _|exact Bqr _ _ _|exact⟨rfl,rfl,rfl⟩
theorem Bfh:∀(ev:List Lg) (D:Dv) (Pd:List Lg),Dk ⟨D,ev,Pd⟩ (Azv ev D Pd)
 | [],D,Pd=>by unfold Azv;exact⟨rfl,rfl,rfl,rfl⟩
 | e::r,D,Pd=>by
  unfold Azv;split
  ·exact⟨rfl,rfl,rfl,rfl⟩
  ·have f:=Bfh r (D.Si e) (Pd++[e])
   obtain⟨a,b,c⟩:=Bh1 D e;refine⟨f.n.trans a,f.size.trans b,f.op.trans c,f.ev.trans ?_⟩;show r.length+(Pd++[e]).length=(e::r).length+Pd.length;simp only[aG,bK,fC];omega
theorem Blk(S:Kx):Dk S S.due:=Bfh S.ev S.dv S.Pd
theorem Ak6(S:Kx)(i:Int):Dk S (S.begin i):=by
 unfold Kx.begin;split
 ·exact Blk S
 ·exact Dk.refl S
theorem A4x {S:Kx}{D:Dv}(v:Vk S.dv D):Dk S { S with dv:=D }:=⟨v.1,v.2.1,v.2.2,rfl⟩
theorem Bgv(D:Dv)(i:Int)(x:List EV):Vk D (D.append i x).1:=by
 unfold Dv.append
 repeat' split
 all_goals exact⟨rfl,rfl,rfl⟩
theorem Bk9(D:Dv)(i:Int):Vk D (D.reset i).1:=by
 unfold Dv.reset
 repeat' split
 all_goals exact⟨rfl,rfl,rfl⟩
theorem Bgs(D:Dv)(i:Int):Vk D (D.finish i).1:=by
 unfold Dv.finish
 repeat' split
 all_goals exact⟨rfl,rfl,rfl⟩
theorem Blb(D:Dv):Vk D D.flush.1:=by
 unfold Dv.flush;split<;>exact⟨rfl,rfl,rfl⟩
theorem A44(S:Kx)(i:Int)(x:List EV):Dk S (S.append i x).1:=(Ak6 S i).trans (A4x (S:=S.begin i) (Bgv _ i x))
theorem Bbh(S:Kx)(i:Int):Dk S (S.reset i).1:=(Ak6 S i).trans (A4x (S:=S.begin i) (Bk9 _ i))
theorem A4f(S:Kx)(i:Int):Dk S (S.finish i).1:=(Ak6 S i).trans (A4x (S:=S.begin i) (Bgs _ i))
theorem Aqf(S:Kx):Dk S S.flush.1:=(Blk S).trans (A4x (S:=S.due) (Blb _))
structure Bso(disp:Nat->Option FT)(K:Nat)(h:Ab)(m:Nat)(S:Mi)(F:Nat->Prop)(D V:Nat):Prop where
 Dd:∀k:EV->Ab->R,Am (Bj K (.ptr m 0) h) k=k (.ptr D 0) h
 Bs2:Bj K (.ptr m 0) h.lift=some (.ptr D 0,h.lift)
 table:Ok (F6 K (.ptr m 0) h.lift) fun v h'=>v=Uh/\Ext h.lift h'
 device:∀k:EV->Ab->R,Am (Db K (.ptr D 0) h) k=k (.ptr V 0) h
 state:∀(i:Int) (k:EV->Ab->R),Am (Jv K (.ptr V 0) (I i) h) k=k (I (if S.dr.dv.has i=true then(S.dr.dv.zs i.toNat).st else 4)) h
 reset:∀{d:Nat},14<=d->∀i:Int,0<(S.dr.begin i).dv.size->Ok (Ag TT disp K d false 196 [.ptr D 0,I i] h) fun v h'=>v=I (S.dr.reset i).2/\Df h' m { S with dr:=(S.dr.reset i).1 } F/\Kf F h h'/\HB h'
 finish:∀{d:Nat},14<=d->∀i:Int,Ok (Ag TT disp K d false 219 [.ptr D 0,I i] h) fun v h'=>v=I (S.dr.finish i).2/\Df h' m { S with dr:=(S.dr.finish i).1 } F/\Kf F h h'/\HB h'
 flush:∀{d:Nat},14<=d->Ok (Ag TT disp K d false 140 [.ptr D 0] h) fun v h'=>v=I S.dr.flush.2/\Df h' m { S with dr:=S.dr.flush.1 } F/\Kf F h h'/\HB h'
 append:∀{d:Nat},14<=d->∀(z:Int) {x:List EV},x.length=64->U8 x->∀{i b:Nat} {s:DX} {k:EV->Ab->DX->R} {Q:EV->Ab->Prop},Aby b s=true->loose b s.nw = []->(∀w,Te b w s.Cz=true) ->
  (∀h' s',Df h' m { S with dr:=(S.dr.append z x).1 } F->Kf F h h'->HB h'->Ok (k (.tuple [I (S.dr.append z x).2.1,I (S.dr.append z x).2.2]) h' s') Q)->Ok (Ev.Js i b s h (fun h=>Ag TT disp K d false 45 [.ptr D 0,I z,.agg x] h) k) Q
theorem Aiw(A:Bw disp)(hK:10000<K)(M:Df h m S F)(hb:HB h):∃D V,Bso disp K h m S F D V:=by
 obtain⟨lt,D,p,bl,ql,np,q,c,G,a⟩:=M.s;obtain⟨V,W,qc,qh,cs,hs,ms,F',b⟩:=a.drv.Mn;have due:A67 disp K S.dr:=A1w A (by omega) S.dr;have u:=a.Hf.ext (h':=h.lift) fun i o g=>by rw[Br];exact g
 refine⟨D,V,⟨fun k=>by rw[Mq a.Hf,Ap],Mq u,Ann u (Da hb),fun k=>by rw[Ajo b,Ap],fun i k=>by rw[A8d b.dev,Ap],?_,?_,?_,?_⟩⟩
 ·intro d hd i hs
  refine(A8a A (by omega) hd due a.drv hb i hs).mono ?_;rintro _ h' ⟨rfl,s2,c2,f⟩;obtain⟨M2,j⟩:=M.drv hb a s2 c2;exact⟨rfl,M2,j,f⟩
 ·intro d hd i
  refine(Asz A hd due a.drv hb i).mono ?_;rintro _ h' ⟨rfl,s2,c2,f⟩;obtain⟨M2,j⟩:=M.drv hb a s2 c2;exact⟨rfl,M2,j,f⟩
 ·intro d hd
  refine(Avs A (by omega) hd due a.drv hb).mono ?_;rintro _ h' ⟨rfl,s2,c2,f⟩;obtain⟨M2,j⟩:=M.drv hb a s2 c2;exact⟨rfl,M2,j,f⟩
 ·intro d hd z x v hu i b' s k Q b0 b1 b2 E
  refine Ok.Bkb (S:=G) b0 b1 b2 (Asq (K:=K) A (by omega) (d:=d) hd due a.drv.lift (Da hb) z v hu) (fun _ _ p=>p.2.2.1) ?_;rintro _ h6 J s' ⟨rfl,d6,_,n⟩ sm O _;obtain⟨P,U⟩:=M.drv hb a (d6.same sm) O;exact E J s' P U (sm.hb n)
section
def arC(m:Nat)(cur Cv:Nat->Int):List EV:=[.ptr m 0,I (cur 0),I (Cv 0),I (cur 1),I (Cv 1),I (cur 2),I (Cv 2)]
def Bgg(h h':Ab)(m:Nat)(S:Mi)(F:Nat->Prop)(v:EV):Prop:=(∃e,v=I e)/\(∃a,Df h' m { S with dr:=a } F/\Dk S.dr a)/\Kf F h h'/\HB h'
section
variable (A:Bw disp)(hK:10000<K)(M:Df h m S F)(hb:HB h)(hA:h.get ar=some (.cells (arC m cur Cv) 212))(fA:F ar){z:Int}
include A hK M hb hA
theorem Bmo(hd:15<=d)(hs:0<S.dr.dv.size):Ok (Ag TT disp K d false 262 [.ptr ar 0,I z] h) fun v h'=>Bgg h h' m S F v:=by
 obtain⟨e,rfl⟩:∃k,d=k+1:=⟨d-1,by omega⟩;rw[Apa A (by omega)];simp only[Akd,Aa];rw[Ah hA rfl (v:=.ptr m 0) rfl];obtain⟨D,V,dr⟩:=Aiw A hK M hb;rw[dr.Dd,dr.device,dr.state];generalize (if S.dr.dv.has z=true then((S.dr.dv.zs z.toNat).st:Int)else 4)=st;simp only[I,Ac];by_cases f:st=0
 ·simp only[f,aB,Aa]
  exact .ret ⟨⟨_,rfl⟩,⟨S.dr,M,Dk.refl _⟩,Au.refl _,hb⟩
 ·simp only[f,aA,Aa,Ads]
  rw[Ah hA rfl (v:=.ptr m 0) rfl,dr.Dd];refine(dr.reset (d:=e) (by omega) z (by rw[(Ak6 S.dr z).size];exact hs)).Am ?_;rintro _ h' ⟨rfl,M2,j,a⟩;exact .ret ⟨⟨_,rfl⟩,⟨_,M2,Bbh _ _⟩,j,a⟩
omit hA hb M in
theorem Bhj(hd:14<=d){X:List (List EV)}(hX:A04 X)(ai:X.length<=1000){v:EV}:∀(f i:Nat) (h:Ab) (S:Mi),X.length-i<f->i<=X.length->Df h m S F->HB h->h.get ar=some (.cells (arC m cur Cv) 212)->F ar->F q->Cc h v q 30 64 X.length X.flatten ->
 Ok (Lu (Ag TT disp K d false) (Ag TT disp K d true) K f (.ptr ar 0) (I z) v (I X.length) (I i) h) fun w h'=>Bgg h h' m S F w:=by
 intro f;induction f with
 | zero=>intro i h S hf;omega
 | succ f ih=>
  intro i h S hf hi M hb hA fA fq row;rw[Lu];simp only[I,Ac];by_cases u:i<X.length
  ·have:decide ((i:Int)<(X.length:Int))=true:=by simp;omega
   simp only[this,Aa,Af7];obtain⟨P,xu⟩:=hX _ (av u);have e1:Mj X.flatten (i*64) 64=some X[i]:=A4d (n:=64) _ _ _ (fun x hx=>(hX x hx).1) (aH u);have ix:=row.ix u .i64;rw[ix,Cn (row.block (by omega)) rfl e1];generalize X[i]=x at P xu
   try simp only[Aa]
   refine Ok.stA (Ad _ _) (by simp) P ?_;obtain⟨h2,e_,U,g2,_⟩:=nP h (.cells (List.replicate 64 (EV.int .u8 0)) 30) (.cells x 30);rw[e_];have o:=U.hb hb;have E:=U.at hb hA;have M2:=(M.ext hb U).less fun j (hj:F j)=>Or.inl hj
   have l2:=o _ _ E;have l3:=o _ _ g2;obtain⟨D,V,dr⟩:=Aiw A hK M2 o;rw[Gy l2,Ah E rfl (v:=.ptr m 0) rfl]
   try simp only[Aa,Ar]
   rw[Afk dr.Bs2]
   try simp only[Aa,Ar]
   rw[Gy l3,Cn g2 rfl (Ak P)]
   try simp only[Aa,Ar]
   refine dr.append hd z P xu (by kernel_rfl) (by kernel_rfl) (fun _=>by kernel_rfl) ?_;intro h4 s4 W k4 G;have dk:=A44 S.dr z x;generalize (S.dr.append z x)=R at W dk⊢;obtain⟨R1,ro,re⟩:=R;have p:Kf F h h4:=(Ext.kf U).trans k4;have fin:∀e:Int,Ok (some (EV.int .i64 e,h4)) fun w h'=>Bgg h h' m S F w:=fun e=>.ret ⟨⟨e,rfl⟩,⟨R1,W,dk⟩,p,G⟩
   simp only at W dk;simp only[Aa,I,Ac];by_cases J:re=0
   ·subst J
    simp only[aB,Aa,Ac];by_cases O:ro=(i:Int)
    ·simp only[O,aC,aA,Aa,Ac,Pu,Py,Afd]
     rw[Cg,show((i:Nat):Int)+1=((i+1:Nat):Int) by omega];refine(ih (i+1) h4 _ (by omega) (by omega) W G (p.at hb hA fA) fA fq (row.frame fun y=>p.get _ (hb _ _ (row.block y)) fun y=>y fq)).mono ?_;rintro _ h5 ⟨a,⟨D',M5,c5⟩,k5,aa⟩;exact⟨a,⟨D',M5,dk.trans c5⟩,p.trans k5,aa⟩
    ·simp only[O,aF,aB,Aa,Ac,Pu,Py,show ¬((30:Int)=0) by decide]
     exact fin 30
   ·simp only[J,aA,Aa,Ac,Pu,Py,aF,aB]
    exact fin re
  ·have:i=X.length:=by omega
   subst this;have:decide ((X.length:Int)<(X.length:Int))=false:=by simp
   simp only[this,Aa,Af6];rw[Ah hA rfl (v:=.ptr m 0) rfl];obtain⟨D,V,dr⟩:=Aiw A hK M hb;rw[dr.Dd,dr.device];have st:=dr.state z;simp only[I]at st;rw[st];generalize (if S.dr.dv.has z=true then((S.dr.dv.zs z.toNat).st:Int)else 4)=st';simp only[I,Ac];by_cases hz:st'=2
   ·simp only[hz,aB,Aa]
    exact .ret ⟨⟨0,rfl⟩,⟨S.dr,M,Dk.refl _⟩,Au.refl _,hb⟩
   ·simp only[hz,aA,Aa,Ag3]
    rw[Ah hA rfl (v:=.ptr m 0) rfl,dr.Dd];refine(dr.finish (d:=d) hd z).Am ?_;rintro _ h' ⟨rfl,M2,k2,o⟩;exact .ret ⟨⟨_,rfl⟩,⟨_,M2,A4f _ _⟩,k2,o⟩
end
end
section
section
variable (A:Bw disp)(hK:10000<K){ll:Nat}(M:Df h m S F)(hb:HB h)(hA:h.get ar=some (.cells (arC m cur Cv) 212))(fA:F ar)(hr:rtB S.g=true)(mp:Lj h b ml ll S.g es){z:Int}(hR:snR x y z es=true)(n0:0<=zn)(n1:zn<S.g.D*S.g.Z)
include A hK M hb hA fA hr mp hR n0 n1
theorem Brb(hd:17<=d)(hs:0<S.dr.dv.size):Ok (Ag TT disp K d false 236 [.ptr ar 0,.agg [I x,I y,I z,.ptr b 0],I zn] h) fun v h'=>Bgg h h' m S F v:=by
 have s:=Ul hr;have hp:S.g.parts<=S.g.S:=by
  have:=hr;unfold rtB at this;simp only[bL,bM]at this;exact this.2.1
 have:=s.s0;have:=s.s1;have:=s.b0;have aq:1<=S.g.parts:=by unfold Gm.parts;omega
 obtain⟨e,rfl⟩:∃k,d=k+1:=⟨d-1,by omega⟩;rw[Arv A (by omega)];simp only[Amz,Aa];obtain⟨h1,e_,x1,g1,ax⟩:=nW h (.cells [I x,I y,I z,.ptr b 0] 163);rw[e_];have u:=x1.hb hb;have P:=x1.at hb hA;have M1:=(M.ext hb x1).less fun j (hj:F j)=>Or.inl hj
 have l1:=u _ _ P;obtain⟨D,V,dr⟩:=Aiw A hK M1 u;rw[Gy l1,Ah P rfl (v:=.ptr m 0) rfl]
 try simp only[Aa,Ar]
 refine Ok.bE dr.table (fun _ _ p=>p.2) ?_;rintro _ az h2 ⟨rfl,_⟩ _ x2;have J:=x2.hb u;have g2:=x2.at u g1;have l2:=J _ _ g2;have ae:h.next<h1.next:=by omega
 try simp only[Aa,Ar]
 rw[Gy ae,Cy g2 rfl,Ak (n:=4) rfl]
 try simp only[Aa,Ar]
 have f:Ext h h2:=x1.trans x2;have af:Lj h2.lift b ml ll S.g es:=(mp.frame (f.get _ (hb _ _ mp.map) id) (f.get _ (hb _ _ mp.row) id) (f.get _ (hb _ _ mp.live) id)).frame (Br _ _) (Br _ _) (Br _ _);refine Ok.bE (Bco (K:=K) A (d:=e) (by omega) hK hr af (Da J) hR n0 n1) (fun _ _ p=>by obtain⟨_,_,_,_,_,_,_,_,p,_⟩:=p;exact p) ?_;rintro _ a1 h3 ⟨v,q,X,rfl,row,lq,hL,hX,_,_⟩ sm x3;have E:=x3.hb J;have o:Cc h3 v q 30 64 X.length X.flatten:=row.frame fun _=>sm.get _
 have hq:h2.next<=q:=lq (by omega)
 simp only[Aa,I,Ac,aC,aA,Agn];have O:Ext h h3:=f.trans x3;have U:=O.at hb hA;have M3:Df h3 m S (fun i=>F i\/i=q):=(M.ext hb O).less fun j hj=>by
  rcases hj with hj|hj
  ·exact .inl hj
  ·subst hj
   have:=E _ _ (o.block (by omega));have:=f.next
   exact .inr ⟨by omega,by omega⟩
 refine(Bmo (K:=K) A hK M3 E U (z:=zn) (d:=e) (by omega) hs).Am ?_;rintro _ h4 ⟨⟨e4,rfl⟩,⟨D',M4,c4⟩,k4,W⟩;have aa:Kf F h h4:=(Ext.kf O).trans (k4.less fun j hj=>.inl hj);simp only[Aa,I,Ac];by_cases h0:e4=0
 ·simp only[h0,aC,aA,Aa,Af8]
  have G:=o.frame (h':=h4) fun y=>k4.get _ (E _ _ (o.block y)) fun w=>w (.inr rfl)
  rw[G.Hc];refine(Bhj (K:=K) A hK (d:=e) (by omega) hX (by omega) K 0 h4 _ (by omega) (by omega) M4 W (k4.at E U (.inl fA)) (.inl fA) (.inr rfl) G).mono ?_;rintro _ h5 ⟨a,⟨D2,M5,c5⟩,k5,ai⟩;exact⟨a,⟨D2,M5.less fun j hj=>.inl hj,c4.trans c5⟩,aa.trans (k5.less fun j hj=>.inl hj),ai⟩
 ·simp only[h0,aF,aB,Aa]
  exact .ret ⟨⟨e4,rfl⟩,⟨D',M4.less fun j hj=>.inl hj,c4⟩,aa,W⟩
end
end
section
def N9(f:Nat->Int)(i:Nat)(v:Int):Nat->Int:=fun j=>if j=i then v else f j
theorem Bla(hi:i<3):(arC m cur Cv)[1+i*2+1]? = some (I (Cv i)):=by
 rcases i with _|_|_|i<;>first|rfl|omega
theorem Bkr(hi:i<3):(arC m cur Cv)[1+i*2]? = some (I (cur i)):=by
 rcases i with _|_|_|i<;>first|rfl|omega
theorem A5h(hi:i<3)(v:Int):(arC m cur Cv).set (1+i*2+1) (I v)=arC m cur (N9 Cv i v):=by
 rcases i with _|_|_|i<;>first|rfl|omega
theorem Bb8(hi:i<3)(v w:Int):Mh (arC m cur Cv) (1+i*2) [I v,I w]=some (arC m (N9 cur i v) (N9 Cv i w)):=by
 rcases i with _|_|_|i<;>first|rfl|omega
theorem Baz{z:Int}(h:S.Jr z=false):0<=Eu S.g z->¬S.bad z.toNat=1:=by
 intro hd hb;unfold Mi.Jr at h;rw[aJ hd,aJ hb]at h;cases h
noncomputable def tgt(S:Mi)(o:Int)(i:Nat):Int × Mi:=
 if ¬o = -1/\S.Jr o=false then(o,S)else match S.ps i with
 | []=>(-1,S)
 | z::r=>(z,{ S with ps:=upd S.ps i r })
section
variable (A:Bw disp)(hK:10000<K)(M:Df h m S F)(hb:HB h)(hA:h.get ar=some (.cells (arC m cur Cv) 212))(fA:F ar)(hi:i<3)
include hK M hb
theorem Bme(hi:i<S.g.D.toNat)
 (J:∀h',(S.ps i = []->Df h' m S F->Kf F h h'->HB h'->Ok (k (.tuple [I 0,I 15]) h') Q)/\(∀z r,S.ps i=z::r->Df h' m { S with ps:=upd S.ps i r } F->Kf F h h'->HB h'->Ok (k (.tuple [I z,I 0]) h') Q)) :
 Ok (Am (Cm K (.ptr m 0) h) fun v h=>Am (O1 K v (I i) h) k) Q:=by
 obtain⟨lt,D,p,bl,ql,np,q,c,G,a⟩:=M.s;rw[Yu a.Hf,Ap];have o:=a.psz.nd;subst o;refine(A79 (K:=K) a.Gd hb a.psz (by omega) i).Am ?_;rintro _ h' ⟨c3,n,x,e,j,rfl,O,P,alt⟩;obtain⟨a3,cH⟩:=a.Arq hb O P c3;have wf:∀{j},(∀d,d<S.g.D.toNat->∀x∈j d,x∈S.ps d)->Mi.Wf { S with ps:=j }:=fun sub=>{ toWp:=⟨M.wf.sm,fun d hd x f=>M.wf.ps d hd x (sub d hd x f)⟩,op:=M.wf.op }
 rcases alt with⟨y,_⟩|⟨_,_,y,rfl,rfl,rfl⟩|⟨_,_,rfl,r,y,rfl⟩
 ·omega
 ·obtain⟨u,E⟩:=M.made (Sa.mono (H:=Out F h) ⟨fun i hi=>aN hi.1 cH.next,D,p,bl,ql,_,q,c,G,a3⟩ (fun _=>.inl) (Bi.lt lt cH.next)) cH (wf fun d hd x f=>f)
  exact(J h').1 y u E n
 ·have y:S.ps i=x::r:=y
  obtain⟨u,E⟩:=M.made (Sa.mono (H:=Out F h) ⟨fun i hi=>aN hi.1 cH.next,D,p,bl,ql,_,q,c,G,a3⟩ (fun _=>.inl) (Bi.lt lt cH.next)) cH (wf fun d hd U f=>by
   unfold upd at f;split at f
   ·rename_i e
    have e:d=i:=e;subst e;rw[y];exact aT _ f
   ·exact f)
  exact(J h').2 x r y u E n
include hA fA hi
theorem Bj0(O:Qu (Cv i)):Ok (Rp K (.ptr ar 0) (I i) h) fun v h'=>v=I (tgt S (Cv i) i).1/\Df h' m (tgt S (Cv i) i).2 F/\h'.get ar=some (.cells (arC m cur (N9 Cv i (-1))) 212)/\Au (fun j=>¬F j\/j=ar) h h'/\HB h':=by
 have P:=hb _ _ hA;have sm:=M.wf.sm;have:=sm.d0;simp only[Rp,Aa];unfold I;rw[Vo hi]
 try simp only[Aa]
 rw[Ah hA rfl (Bla hi),Vo hi]
 try simp only[Aa]
 refine Ok.st1 hA rfl rfl (by show _<7;omega) ?_;rw[show(arC m cur Cv).set (1+i*2+1) (.int .i64 (-1))=arC m cur (N9 Cv i (-1))from A5h hi (-1)];have c1:Au (fun j=>j=ar) h (h.put ar (.cells (arC m cur (N9 Cv i (-1))) 212)):=(Au.refl (S:=fun j=>j=ar) h).Ao (.inl rfl) P _;have f:(h.put ar (.cells (arC m cur (N9 Cv i (-1))) 212)).get ar=some (.cells (arC m cur (N9 Cv i (-1))) 212):=Ae _ _ _;generalize h.put ar (.cells (arC m cur (N9 Cv i (-1))) 212)=h1 at c1 f⊢;have a:=c1.hb hb;have E:=M.Agw c1 fun j hj _=>hj▸fA
 have n:Au (fun j=>¬F j\/j=ar) h h1:=c1.mono fun j hj=>.inr hj
 have take:∀h1,Df h1 m S F->HB h1->h1.get ar=some (.cells (arC m cur (N9 Cv i (-1))) 212)->Au (fun j=>¬F j\/j=ar) h h1->Ok (Sq K (.ptr ar 0) (.int .i64 (i:Int)) h1) fun v h'=>v=I (match S.ps i with | []=>(-1,S)|z::r=>(z,{ S with ps:=upd S.ps i r }):Int × Mi).1/\Df h' m (match S.ps i with | []=>(-1,S)|z::r=>(z,{ S with ps:=upd S.ps i r }):Int × Mi).2 F/\h'.get ar=some (.cells (arC m cur (N9 Cv i (-1))) 212)/\Au (fun j=>¬F j\/j=ar) h h'/\HB h':=by
  intro h1 E a f n;simp only[Sq,Aa];rw[Ah f rfl (v:=.ptr m 0) rfl];refine Bme hK E a (i:=i) (by omega) fun h'=>⟨fun e M2 G o=>?_,fun z r e M2 G o=>?_⟩
  ·rw[e]
   simp only[Aa,I,Ac];exact .ret ⟨rfl,M2,G.at a f fA,n.trans (G.mono fun j hj=>.inl hj),o⟩
  ·rw[e]
   simp only[Aa,I,Ac,aC,aA,Acl];exact .ret ⟨rfl,M2,G.at a f fA,n.trans (G.mono fun j hj=>.inl hj),o⟩
 simp only[I,Ac];unfold tgt;by_cases p:Cv i = -1
 ·rw[aM (fun y=>y.1 p)]
  simp only[p,aC,aA,Aa,Ac,Nt];exact take _ E a f n
 ·simp only[p,aF,aB,Aa,Ac,gF]
  rw[Ah f rfl (v:=.ptr m 0) rfl];refine(Jg (K:=K) E.s a O).Am ?_;rintro _ h2 ⟨rfl,u⟩;have o:=u.hb a;cases J:S.Jr (Cv i)with
  | true=>
   rw[aM (by simp)];simp only[Aa,Nt];exact take _ ((E.ext a u).less fun j (hj:F j)=>Or.inl hj) o (u.at a f) (n.trans (Ext.to u))
  | false=>
   rw[aQ rfl];simp only[Aa,Nt];exact .ret ⟨rfl,(E.ext a u).less fun j (hj:F j)=>Or.inl hj,u.at a f,n.trans (Ext.to u),o⟩
end
end
structure Mk(S T:Mi):Prop where
 g:T.g=S.g
 dr:Dk S.dr T.dr
theorem Mk.refl(S:Mi):Mk S S:=⟨rfl,Dk.refl _⟩
theorem Mk.trans {T U:Mi}(a:Mk S T)(b:Mk T U):Mk S U:=⟨b.g.trans a.g,a.dr.trans b.dr⟩
theorem A9r(S:Mi)(z u:Int):Mk S (S.leave z u).1:=by
 refine⟨(A7n S z u).1,?_⟩;unfold Mi.leave;split
 ·exact Dk.refl _
 ·split
  ·exact Dk.refl _
  ·exact A4f _ _
theorem Bl5(S:Mi):Mk S S.close.1:=by
 unfold Mi.close;exact((⟨rfl,Dk.refl _⟩:Mk S { S with a:=-1,b:=-1,u:=0 }).trans (A9r _ _ _)).trans (A9r _ _ _)
theorem Aa2(S:Mi)(z:Int):Mk S (S.Bv z).1:=by
 unfold Mi.Bv;split
 ·exact Mk.refl _
 ·split
  ·exact Mk.refl _
  ·split
   ·exact⟨rfl,Dk.refl _⟩
   ·exact(⟨rfl,Dk.refl _⟩:Mk S (S.mark z)).trans (Bl5 _)
theorem Bns(S:Mi):Mk S S.ready.1:=by
 refine⟨(Bgd S).1,?_⟩;unfold Mi.ready;split
 ·exact Dk.refl _
 ·split
  ·exact Aqf _
  ·split<;>exact Aqf _
theorem Beu(S:Mi)(e:En)(An Bt As seq:Int):Mk S (S.put e An Bt As seq).1:=by
 refine⟨(Blr S e An Bt As seq).1,?_⟩;unfold Mi.put;split
 ·exact Dk.refl _
 ·exact A44 _ _ _
theorem Bql(S:Mi)(e:En)(As seq:Int):Mk S (S.both e As seq).1:=by
 unfold Mi.both;split
 ·exact Beu _ _ _ _ _ _
 ·exact(Beu _ _ _ _ _ _).trans (Beu _ _ _ _ _ _)
theorem Bbp(S:Mi):Mk S S.Awi:=⟨rfl,Dk.refl _⟩
theorem Bk8(B:Mi × Int × Int):Mk B.1 (Mi.Lc B):=by
 unfold Mi.Lc;split
 ·exact Bbp _
 ·exact Mk.refl _
theorem A4w(e:En)(As seq:Int):∀(n:Nat) (S:Mi),Mk S (Mi.Q6 e As seq n S).1
 | 0,S=>Mk.refl S
 | n+1,S=>by
  have a:=Bns S;have b:=a.trans (Bql S.ready.1 e As seq);have c:=(b.trans (Bk8 _)).trans (Aa2 _ (S.ready.1.both e As seq).2.1);unfold Mi.Q6;split
  ·exact a
  ·split
   ·exact b.trans (Bbp _)
   ·split
    ·exact b
    ·split
     ·exact c
     ·exact c.trans (A4w e As seq n _)
theorem Bno(S:Mi)(e:En)(As seq:Int):Mk S (S.place e As seq).1:=by
 unfold Mi.place;split
 ·exact Mk.refl _
 ·exact A4w _ _ _ _ _
theorem Bny(D:Dv)(i:Int):Vk D (D.begin i):=by
 unfold Dv.begin;split<;>exact⟨rfl,rfl,rfl⟩
theorem Be4(S:Kx)(i off:Int):Dk S (S.read i off).1:=(Ak6 S i).trans (A4x (S:=S.begin i) (Bny _ i))
theorem Aya{D:Kx}(d:Dk S.dr D):Mk S { S with dr:=D }:=⟨rfl,d⟩
theorem Ari(S:Mi)(x:Me)(An Bt:Int):Mk S (S.Dz x An Bt).1:=by
 have r:=Aya (Be4 S.dr An x.off);unfold Mi.Dz;split
 ·exact r
 ·split
  ·exact r
  ·split
   ·exact r.trans (Aa2 _ _)
   ·exact r
theorem Bov(S:Mi)(x:Me):Mk S (S.read x).1:=by
 unfold Mi.read;split
 ·exact Mk.refl _
 ·split
  ·exact Ari _ _ _ _
  ·split<;>exact(Ari _ _ _ _).trans (Ari _ _ _ _)
theorem Bat(S:Mi)(x:Me):Mk S (S.check x).1:=by
 unfold Mi.check;split
 ·exact Mk.refl _
 ·split
  ·exact Ari _ _ _ _
  ·have c:=(Ari S x x.An x.Bt).trans (Ari (S.Dz x x.An x.Bt).1 x x.Bt x.An)
   unfold Mi.A6p;split
   ·exact c
   ·split<;>exact c
theorem Mi.Wf.Lc {B:Mi × Int × Int}(w:B.1.Wf):(Mi.Lc B).Wf:=by
 unfold Mi.Lc;split
 ·exact w.Awi
 ·exact w
theorem Ap2:Qu Me.zero.An/\Qu Me.zero.Bt:=⟨⟨by decide,by decide⟩,⟨by decide,by decide⟩⟩
theorem A18(e:En)(As seq:Int):∀(n:Nat) (S:Mi),S.Wf->Qu (Mi.Q6 e As seq n S).2.1.An/\Qu (Mi.Q6 e As seq n S).2.1.Bt
 | 0,S,_=>Ap2
 | n+1,S,w=>by
  have w1:=w.ready.both e As seq;unfold Mi.Q6;split
  ·exact Ap2
  ·split
   ·exact w1.rng
   ·split
    ·exact Ap2
    ·split
     ·exact Ap2
     ·exact A18 e As seq n _ (w1.Lc.Bv _)
theorem Bhh(w:S.Wf)(e:En)(As seq:Int):Qu (S.place e As seq).2.1.An/\Qu (S.place e As seq).2.1.Bt:=by
 unfold Mi.place;split
 ·exact Ap2
 ·exact A18 _ _ _ _ _ w
theorem Bud(S:Mi)(o:Int)(i:Nat):(tgt S o i).2.g=S.g/\(tgt S o i).2.dr=S.dr/\(tgt S o i).2.bad=S.bad:=by
 unfold tgt;split
 ·exact⟨rfl,rfl,rfl⟩
 ·split<;>exact⟨rfl,rfl,rfl⟩
theorem Bni:TT.eqs 23=some [0,0,0,0,0,0]:=by kernel_rfl
theorem Bn9(a:Int):eqB a a=true:=by rw[<-Bb9,A0a];simp
theorem Bsw(g:Gm)(k:EV->R):Ko Aoa (bin TT .neq 23) (gV g) (gV g) k=k (.bool false):=by
 have h1:At4 TT 23 (gV g) (gV g)=some true:=by
  unfold At4 gV;rw[Bni];simp only[gL,shaped,I];rw[show Nat.beq 0 0=true from rfl];simp only[Aj,Ey,Agv,show Nat.beq (O2 .i64) (O2 .i64)=true from rfl,Bn9]
 show oB k (match At4 TT 23 (gV g) (gV g)with|some b=>some (EV.bool (Ax b false true))|none=>none)=_;rw[h1];rfl
structure Aha(S:Mi)(cur Cv:Nat->Int):Prop where
 cur:∀i,i<3->cur i = -1\/Eu S.g (cur i)=i
 Cv:∀i,i<3->Cv i = -1\/Eu S.g (Cv i)=i
theorem Aha.tgt(a:Aha S cur Cv)(w:S.Wf)(hi:i<3):(tgt S (Cv i) i).1 = -1\/Eu S.g (tgt S (Cv i) i).1=i:=by
 have:=w.sm.d0;unfold Ev.tgt;split
 ·exact a.Cv i hi
 ·split
  ·exact .inl rfl
  ·rename_i z r e
   exact .inr (w.ps i (by omega) z (by rw[e];exact aV ..)).1
theorem Bkm(s:Sm g){z:Int}(h:Eu g z=i):0<=z/\z<g.D*g.Z:=by
 rcases Aew s z with y|⟨_,_,_,a,b⟩
 ·omega
 ·exact⟨a,b⟩
section
structure Aqw(h h':Ab)(ar m:Nat)(S:Mi)(F:Nat->Prop)(S':Mi)(cur' old':Nat->Int):Prop where
 kk:Mk S S'
 an:Aha S' cur' old'
 M:Df h' m S' F
 A:h'.get ar=some (.cells (arC m cur' old') 212)
 c:Au (fun j=>¬F j\/j=ar) h h'
 hb:HB h'
theorem Aqw.trans {f:Ab}{T U:Mi}{c1 o1 c2 j:Nat->Int}(a:Aqw h1 h2 ar m S F T c1 o1)(b:Aqw h2 f ar m T F U c2 j):Aqw h1 f ar m S F U c2 j:=⟨a.kk.trans b.kk,b.an,b.M,b.A,a.c.trans b.c,b.hb⟩
theorem Aqw.less{T:Mi}{c1 o1:Nat->Int}(a:Aqw h1 h2 ar m S F T c1 o1)(s:∀i,F' i->F i):Aqw h1 h2 ar m S F' T c1 o1:=⟨a.kk,a.an,a.M.less s,a.A,a.c.mono fun i hi=>hi.imp (fun y w=>y (s i w)) id,a.hb⟩
theorem Aha.of {T:Mi}(a:Aha S cur Cv)(g:T.g=S.g):Aha T cur Cv:=⟨by rw[g];exact a.cur,by rw[g];exact a.Cv⟩
theorem Aha.Bdp(a:Aha S cur Cv){z:Int}(f:z = -1\/Eu S.g z=i):Aha S cur (N9 Cv i z):=⟨a.cur,fun j hj=>by
 unfold N9;split
 ·rename_i e;subst e;exact f
 ·exact a.Cv j hj⟩
theorem Aha.setCur(a:Aha S cur Cv){z:Int}(f:z = -1\/Eu S.g z=i):Aha S (N9 cur i z) Cv:=⟨fun j hj=>by
 unfold N9;split
 ·rename_i e;subst e;exact f
 ·exact a.cur j hj,a.Cv⟩
theorem Aha.Bdq(a:Aha S cur Cv)(w:S.Wf)(hi:i<3)(h:¬(Ev.tgt S (Cv i) i).1 = -1):Eu S.g (Ev.tgt S (Cv i) i).1=i/\¬S.bad (Ev.tgt S (Cv i) i).1.toNat=1:=by
 have:=w.sm.d0;have hd:=(a.tgt w hi).resolve_left h;refine⟨hd,?_⟩;revert h hd;unfold Ev.tgt;split
 ·rename_i f
  intro h hd;exact Baz f.2 (by show 0<=Eu S.g (Cv i);rw[hd];omega)
 ·split
  ·intro h;exact absurd rfl h
  ·rename_i z r e
   intro _ _;exact(w.ps i (by omega) z (by rw[e];exact aV ..)).2
theorem Axm {T:Mi}(w:T.Wf){z:Int}(g:T.g=S.g)(b:T.bad=S.bad)(a:0<=Eu S.g z)(hb:¬S.bad z.toNat=1):Amy (T.Bv z).1.bad (S.g.D*S.g.Z).toNat<Amy S.bad (S.g.D*S.g.Z).toNat:=by
 have:=Anp w (z:=z) (by rw[g];exact a) (by rw[b];exact hb);rw[b,g]at this;exact this
section
variable (A:Bw disp)(hK:10000<K){ll:Nat}(fA:F ar)(fb:F b/\F ml/\F ll/\b≠ar/\ml≠ar/\ll≠ar){z:Int}(hR:snR x y z es=true)(hi:i<3)
include A hK fA fb hR hi
theorem Bb4(hd:18<=d)(ft:F t)(ta:t≠ar):∀(n f:Nat) (h:Ab) (S:Mi) (cur Cv:Nat->Int),Amy S.bad (S.g.D*S.g.Z).toNat<=n->n<f->Df h m S F->HB h->h.get ar=some (.cells (arC m cur Cv) 212)->h.get t=some (.cells [I x,I y,I z,.ptr b 0] 163)->Lj h b ml ll S.g es->rtB S.g=true->0<S.dr.dv.size->Aha S cur Cv ->
 Ok (Ku (Ag TT disp K d false) (Ag TT disp K d true) K f (.ptr ar 0) (I i) (.ptr t 0) h) fun v h'=>∃(ok:Bool) (e:Int) (S':Mi) (cur' old':Nat->Int),v=.tuple [.bool ok,I e]/\Aqw h h' ar m S F S' cur' old':=by
 intro n;induction n using Nat.strongRecOn with
 | ind n ih=>
 intro f h S cur Cv hn hf M hb hA gt mp hr hs an;obtain⟨f,rfl⟩:∃k,f=k+1:=⟨f-1,by omega⟩;have sm:=M.wf.sm;have ro:Qu (Cv i):=by
  rcases an.Cv i hi with w|w
  ·rw[w];exact⟨by omega,by omega⟩
  ·exact Akk sm (by omega)
 rw[Ku];refine(Bj0 (K:=K) hK M hb hA fA hi ro).Am ?_;rintro _ h2 ⟨rfl,M2,J,c2,O⟩;obtain⟨p,td,tb⟩:=Bud S (Cv i) i;have Bdq:=an.Bdq M.wf hi;generalize tgt S (Cv i) i=t' at M2 p td tb Bdq⊢;obtain⟨o,T⟩:=t';simp only at M2 p td tb Bdq⊢;have V:Mk S T:=⟨p,by rw[td];exact Dk.refl _⟩;have E:Aha T cur (N9 Cv i (-1)):=(an.of p).Bdp (.inl rfl);have a2:Aqw h h2 ar m S F T cur (N9 Cv i (-1)):=⟨V,E,M2,J,c2,O⟩;simp only[I,Ac];by_cases hm:o = -1
 ·subst hm
  simp only[aB,Aa];exact .ret ⟨_,_,_,_,_,rfl,a2⟩
 obtain⟨al,ao⟩:=Bdq hm;have P:Eu T.g o=i:=by rw[p];exact al
 have hz:=Bkm (g:=T.g) (by rw[p];exact sm) P;simp only[hm,aA,Aa,Ade];have aq:=c2.at hb gt fun w=>w.elim (fun w=>w ft) ta
 rw[Cy aq rfl,Ak (n:=4) rfl]
 try simp only[Aa]
 have au:Lj h2 b ml ll T.g es:=by
  rw[p];exact mp.frame (c2.get _ (hb _ _ mp.map) fun w=>w.elim (fun w=>w fb.1) fb.2.2.2.1) (c2.get _ (hb _ _ mp.row) fun w=>w.elim (fun w=>w fb.2.1) fb.2.2.2.2.1) (c2.get _ (hb _ _ mp.live) fun w=>w.elim (fun w=>w fb.2.2.1) fb.2.2.2.2.2)
 have aw:rtB T.g=true:=by rw[p];exact hr
 have ax:0<T.dr.dv.size:=by rw[td];exact hs
 have fl:=Brb (K:=K) A hK M2 O J fA aw au hR hz.1 hz.2 (d:=d) (by omega) ax;simp only[I]at fl;refine fl.Am ?_;rintro _ W ⟨⟨e3,rfl⟩,⟨G,M3,c3⟩,k3,u⟩;have a:=k3.at O J fA;have l3:=u _ _ a;have aa:Mk S { T with dr:=G }:=V.trans (Aya c3);have ay:Au (fun j=>¬F j\/j=ar) h2 W:=k3.mono fun j hj=>.inl hj
 have a3:Aqw h W ar m S F { T with dr:=G } cur (N9 Cv i (-1)):=⟨aa,E.of rfl,M3,a,c2.trans ay,u⟩;have put:∀(c' o':Nat->Int),Aha T c' o'->Aqw h (W.put ar (.cells (arC m c' o') 212)) ar m S F { T with dr:=G } c' o':=fun c' o' az=>
  ⟨aa,az.of rfl,M3.Agw (T:=fun j=>j=ar) ((Au.refl (S:=fun j=>j=ar) W).Ao (.inl rfl) l3 _) fun j hj _=>hj▸fA,Ae _ _ _,a3.c.Ao (.inl (.inr rfl)) l3 _,u.put l3 _⟩
 simp only[Aa,I,Ac];by_cases h0:e3=0
 ·simp only[h0,aB,Aa]
  rw[Vo hi]
  try simp only[Aa]
  rw[cz,Gy l3,Ah a rfl (Bkr hi)]
  try simp only[Aa,Ar]
  rw[Aw (l:=[.int .i64 o,I (cur i)]) rfl]
  try simp only[Aa,Ar]
  rw[Vo hi]
  try simp only[Aa,Ar]
  rw[Gh];refine Ok.st (arC m (N9 cur i o) (N9 (N9 Cv i (-1)) i (cur i))) a rfl rfl (Bb8 hi o (cur i)) ?_;exact .ret ⟨true,0,_,_,_,rfl,put _ _ ((E.setCur (.inr P)).Bdp ((an.of p).cur i hi))⟩
 simp only[h0,aA,Aa,Ac];by_cases ab:e3=34
 ·simp only[ab,aB,Aa]
  rw[Vo hi]
  try simp only[Aa]
  refine Ok.st1 a rfl rfl (by show _<7;omega) ?_;rw[show EV.int .i64 o=I o from rfl,A5h hi];exact .ret ⟨false,34,_,_,_,rfl,put _ _ (E.Bdp (.inr P))⟩
 simp only[ab,aA,Aa,Adr];rw[Ah a rfl (v:=.ptr m 0) rfl];have rz:Qu o:=Akk sm (by omega);have q:=Ym A hK M3 u (d:=d) (by omega) rz;simp only[I]at q;refine q.Am ?_;rintro _ h4 ⟨rfl,M4,k4,ad⟩;have U:=Aa2 { T with dr:=G } o;have ae:=k4.at u a fA;have a1:Au (fun j=>¬F j\/j=ar) W h4:=k4.mono fun j hj=>.inl hj
 have a4:=a3.trans ⟨U,a3.an.of U.g,M4,ae,a1,ad⟩;simp only[Ac];by_cases hq:(Mi.Bv { T with dr:=G } o).2=34
 ·simp only[hq,aB,Aa]
  exact .ret ⟨_,_,_,_,_,rfl,a4⟩
 simp only[hq,aA,Aa];have gS:(Mi.Bv { T with dr:=G } o).1.g=S.g:=U.g.trans p;have less:=Axm M3.wf (z:=o) (S:=S) p tb (by omega) ao;have a7:=a4.c.at hb gt fun w=>w.elim (fun w=>w ft) ta
 have a8:Lj h4 b ml ll (Mi.Bv { T with dr:=G } o).1.g es:=by
  rw[gS];exact mp.frame (a4.c.get _ (hb _ _ mp.map) fun w=>w.elim (fun w=>w fb.1) fb.2.2.2.1) (a4.c.get _ (hb _ _ mp.row) fun w=>w.elim (fun w=>w fb.2.1) fb.2.2.2.2.1) (a4.c.get _ (hb _ _ mp.live) fun w=>w.elim (fun w=>w fb.2.2.1) fb.2.2.2.2.2)
 refine(ih (Amy (Mi.Bv { T with dr:=G } o).1.bad (S.g.D*S.g.Z).toNat) (by omega) f h4 _ _ _ (by rw[gS];exact aD _) (by omega) M4 ad ae a7 a8 (by rw[gS];exact hr) (by rw[a4.kk.dr.size];exact hs) a4.an).mono ?_;rintro _ h5 ⟨ok,e,S',cur',old',rfl,a5⟩;exact⟨ok,e,S',cur',old',rfl,a4.trans a5⟩
theorem Bis(hd:19<=d)(M:Df h m S F)(hb:HB h)(hA:h.get ar=some (.cells (arC m cur Cv) 212))(mp:Lj h b ml ll S.g es)(hr:rtB S.g=true)(hs:0<S.dr.dv.size)(an:Aha S cur Cv):
 Ok (Ag TT disp K d false 195 [.ptr ar 0,I i,.agg [I x,I y,I z,.ptr b 0]] h) fun v h'=>∃(ok:Bool) (e:Int) (S':Mi) (cur' old':Nat->Int),v=.tuple [.bool ok,I e]/\Aqw h h' ar m S F S' cur' old':=by
 obtain⟨e,rfl⟩:∃k,d=k+1:=⟨d-1,by omega⟩;have sm:=M.wf.sm;rw[Apb A (by omega)];simp only[Alj,Aa];obtain⟨h1,u,f,E,G⟩:=nW h (.cells [I x,I y,I z,.ptr b 0] 163);rw[u];have o:=f.hb hb;have O:=hb _ _ hA;have J:Df h1 m S (fun j=>F j\/j=h.next):=(M.ext hb f).less fun j hj=>by
  rcases hj with hj|hj
  ·exact .inl hj
  ·exact .inr ⟨by omega,by omega⟩
 have p:=mp.frame (f.get _ (hb _ _ mp.map) id) (f.get _ (hb _ _ mp.row) id) (f.get _ (hb _ _ mp.live) id);have P:=A93 S.bad (S.g.D*S.g.Z).toNat;have:=sm.d0;have:=sm.d1;have:=sm.z0;have:=sm.z1;obtain⟨U,V⟩:=N3 (a:=S.g.D) (b:=S.g.Z) (A:=8) (B:=64) (by omega) (by omega) (by omega) (by omega);refine(Bb4 (K:=K) (F:=fun j=>F j\/j=h.next) A hK (.inl fA) ⟨.inl fb.1,.inl fb.2.1,.inl fb.2.2.1,fb.2.2.2⟩ hR hi (d:=e) (by omega) (t:=h.next) (.inr rfl) (by omega) _ K h1 S cur Cv (aD _) (by omega) J o (f.at hb hA) E p hr hs an).mono ?_;rintro _ h2 ⟨ok,e,S',cur',old',rfl,a⟩;have n:=a.less (F':=F) fun i=>.inl
 exact⟨ok,e,S',cur',old',rfl,⟨n.kk,n.an,n.M,n.A,(Ext.to f).trans n.c,n.hb⟩⟩
end
end
section
section
variable (A:Bw disp)(hK:10000<K){ll:Nat}(fA:F ar)(fb:F b/\F ml/\F ll/\b≠ar/\ml≠ar/\ll≠ar){z:Int}
include A hK fA fb
theorem Bcz(hd:19<=d)(hR:snR x y z es=true)(ft:F t)(ta:t≠ar):∀(f i n:Nat) (h:Ab) (S:Mi) (cur Cv:Nat->Int),3-i<f->i<=3->n<=i->Df h m S F->HB h->h.get ar=some (.cells (arC m cur Cv) 212)->h.get t=some (.cells [I x,I y,I z,.ptr b 0] 163)->Lj h b ml ll S.g es->rtB S.g=true->0<S.dr.dv.size->Aha S cur Cv ->
 Ok (H5 (Ag TT disp K d false) (Ag TT disp K d true) K f (.ptr ar 0) (.ptr t 0) (I n) (I i) h) fun v h'=>∃(o e:Int) (S':Mi) (cur' old':Nat->Int),v=.tuple [I o,I e]/\Aqw h h' ar m S F S' cur' old':=by
 intro f;induction f with
 | zero=>intro i n h S cur Cv hf;omega
 | succ f ih=>
  intro i n h S cur Cv hf hi hn M hb hA gt mp hr hs an;rw[H5];simp only[I,Ac];by_cases J:i<3
  ·have:decide ((i:Int)<3)=true:=by simp;omega
   simp only[this,Aa,Aeg];rw[Cy gt rfl,Ak (n:=4) rfl];simp only[Aa];have p:=Bis (K:=K) A hK fA fb hR J hd M hb hA mp hr hs an;simp only[I]at p;refine p.Am ?_;rintro _ h2 ⟨ok,e,S2,u,E,rfl,a⟩;simp only[Aa,Ac];by_cases he:e=0
   ·simp only[he,aC,aA,Aa,Ad8]
    have O:Lj h2 b ml ll S2.g es:=by
     rw[a.kk.g];exact mp.frame (a.c.get _ (hb _ _ mp.map) fun w=>w.elim (fun w=>w fb.1) fb.2.2.2.1) (a.c.get _ (hb _ _ mp.row) fun w=>w.elim (fun w=>w fb.2.1) fb.2.2.2.2.1) (a.c.get _ (hb _ _ mp.live) fun w=>w.elim (fun w=>w fb.2.2.1) fb.2.2.2.2.2)
    have P:=a.c.at hb gt fun w=>w.elim (fun w=>w ft) ta
    have nx:∀o,o<=n+1->Ok (Uz (Ag TT disp K d false) (Ag TT disp K d true) K (H5 (Ag TT disp K d false) (Ag TT disp K d true) K f) (.ptr ar 0) (.ptr t 0) (I (o:Nat)) (.int .i64 (i:Int)) h2) fun v h'=>∃(o e:Int) (S':Mi) (cur' old':Nat->Int),v=.tuple [I o,I e]/\Aqw h h' ar m S F S' cur' old':=by
     intro o af;simp only[Uz,Ac];rw[Cg,show((i:Nat):Int)+1=((i+1:Nat):Int) by omega];refine(ih (i+1) o h2 S2 u E (by omega) (by omega) (by omega) a.M a.hb a.A P O (by rw[a.kk.g];exact hr) (by rw[a.kk.dr.size];exact hs) a.an).mono ?_;rintro _ h3 ⟨n3,e3,S',cur',old',rfl,a3⟩;exact⟨n3,e3,S',cur',old',rfl,a.trans a3⟩
    cases ok with
    | true=>
     simp only[Aa,Ac];rw[Cg,show((n:Nat):Int)+1=((n+1:Nat):Int) by omega];exact nx (n+1) (aD _)
    | false=>
     simp only[Aa];exact nx n (by omega)
   ·simp only[he,aF,aB,Aa]
    exact .ret ⟨0,e,_,_,_,rfl,a⟩
  ·have:i=3:=by omega
   subst this;have:decide (((3:Nat):Int)<3)=false:=rfl;simp only[this,Aa,Adt];rw[Ah hA rfl (v:=.ptr m 0) rfl];obtain⟨D,V,dr⟩:=Aiw A hK M hb;rw[dr.Dd];refine(dr.flush (d:=d) (by omega)).Am ?_;rintro _ h2 ⟨rfl,M2,W,U⟩;have a:Aqw h h2 ar m S F { S with dr:=S.dr.flush.1 } cur Cv:=⟨Aya (Aqf _),an.of rfl,M2,W.at hb hA fA,W.mono fun j hj=>.inl hj,U⟩;generalize S.dr.flush.2=e;simp only[I,Ac];by_cases he:e=0
   ·simp only[he,aC,aA,Aa,Ado,Ac]
    by_cases G:(n:Int)<2
    ·simp only[G,aB,Aa]
     exact .ret ⟨_,40,_,_,_,rfl,a⟩
    ·simp only[G,aA,Aa,Aee]
     exact .ret ⟨_,0,_,_,_,rfl,a⟩
   ·simp only[he,aF,aB,Aa]
    exact .ret ⟨0,e,_,_,_,rfl,a⟩
theorem Bn0(hd:20<=d)(M:Df h m S F)(hb:HB h)(hA:h.get ar=some (.cells (arC m cur Cv) 212))(mp:Lj h b ml ll S.g es)(hr:rtB S.g=true)(hs:0<S.dr.dv.size)(an:Aha S cur Cv):
 Ok (Ag TT disp K d false 141 [.ptr ar 0,.agg [I x,I y,I z,.ptr b 0]] h) fun v h'=>∃(n' e:Int) (S':Mi) (cur' old':Nat->Int),v=.tuple [I n',I e]/\Aqw h h' ar m S F S' cur' old':=by
 obtain⟨e,rfl⟩:∃k,d=k+1:=⟨d-1,by omega⟩;have s:=Ul hr;rw[Apk A (by omega)];simp only[Akg,Aa];obtain⟨h1,e_,G,W,aj⟩:=nW h (.cells [I x,I y,I z,.ptr b 0] 163);rw[e_];have f:=G.hb hb;have l1:=f _ _ W;have la:=f _ _ (G.at hb hA);rw[Gy l1,Cy W rfl,Ak (n:=4) rfl]
 try simp only[Aa,Ar]
 have u:=mp.frame (G.get _ (hb _ _ mp.map) id) (G.get _ (hb _ _ mp.row) id) (G.get _ (hb _ _ mp.live) id);refine Ok.bE ((Ajn (K:=K) A (d:=e) (by omega) (by omega) s (u.frame (Br _ _) (Br _ _) (Br _ _)) (Da f) x y z)) (fun _ _ p=>p.2.1) ?_;rintro _ ao h2 ⟨rfl,_⟩ _ E;have P:=E.hb f;have stop:∀h2,Ext h h2->Aqw h h2 ar m S F S cur Cv:=fun h2 x=>⟨Mk.refl _,an,(M.ext hb x).less fun j (hj:F j)=>Or.inl hj,x.at hb hA,Ext.to x,x.hb hb⟩
 cases hR:snR x y z es with
 | false=>
  simp only[Aa,Ac,Ar,Oh];exact .ret ⟨0,10,_,_,_,rfl,stop _ (G.trans E)⟩
 | true=>
 have g2:=E.at f W;simp only[Aa,Ac,Ar];rw[Gy l1,Ah g2 rfl (v:=.ptr b 0) rfl]
 try simp only[Aa,Ar]
 have ab:=u.frame (E.get _ (f _ _ u.map) id) (E.get _ (f _ _ u.row) id) (E.get _ (f _ _ u.live) id);refine Ok.bE ((Ih (K:=K) (ab.frame (Br _ _) (Br _ _) (Br _ _)) (Da P)).mono fun _ _ a=>(⟨a.1,a.2.1⟩:_/\_)) (fun _ _ p=>p.2) ?_;rintro _ au h3 ⟨rfl,_⟩ _ x3;have U:=x3.hb P;have J:Ext h h3:=(G.trans E).trans x3;have ae:=J.at hb hA
 try simp only[Aa,Ar]
 rw[Gy la,Ah ae rfl (v:=.ptr m 0) rfl]
 try simp only[Aa,Ar]
 have M3:=(M.ext hb J).less fun j (hj:F j)=>Or.inl hj
 refine Ok.bE (Mx (K:=K) (M3.same (Ag9.lift _)) (Da U)) (fun _ _ p=>p.2) ?_;rintro _ ay h4 ⟨rfl,_⟩ _ x4;have ag:=x4.hb U
 try simp only[Aa,Ar]
 rw[Bsw];simp only[Oh,Aa,Ad0];have o:Ext h h4:=J.trans x4;have V:Ext h1 h4:=(E.trans x3).trans x4;have M4:Df h4 m S (fun j=>F j\/j=h.next):=(M.ext hb o).less fun j hj=>by
  rcases hj with hj|hj
  ·exact .inl hj
  ·have:=V.next
   exact .inr ⟨by omega,by omega⟩
 have lA:=hb _ _ hA;have ah:=mp.frame (o.get _ (hb _ _ mp.map) id) (o.get _ (hb _ _ mp.row) id) (o.get _ (hb _ _ mp.live) id);refine(Bcz (K:=K) (F:=fun j=>F j\/j=h.next) A hK (.inl fA) ⟨.inl fb.1,.inl fb.2.1,.inl fb.2.2.1,fb.2.2.2⟩ (d:=e) (by omega) hR (t:=h.next) (.inr rfl) (by omega) K 0 0 h4 S cur Cv (by omega) (by omega) (by omega) M4 ag (o.at hb hA) (V.at f W) ah hr hs an).mono ?_;rintro _ h5 ⟨n',e',S',cur',old',rfl,a⟩;have O:=a.less (F':=F) fun i=>.inl
 exact⟨n',e',S',cur',old',rfl,⟨O.kk,O.an,O.M,O.A,(Ext.to o).trans O.c,O.hb⟩⟩
end
theorem Bl7(hi:i<3)(h:Ab):Apf K (I i) h=some (.bool true,h):=by
 simp only[Apf,Ay8,I,Ac];have e1:decide (0<=(i:Int))=true:=by simp
 have e2:decide ((i:Int)<3)=true:=by simp;omega
 simp only[e1,e2,Aa,Ac]
section
variable(M:Df h m S F)(hb:HB h)(hA:h.get ar=some (.cells (arC m cur Cv) 212))
include M hb hA
theorem Be5{z:Int}(a:z = -1\/Eu S.g z=i):Ok (Qc K (.ptr ar 0) (I i) (I z) h) fun v h'=>v=.bool true/\Ext h h':=by
 simp only[Qc,I,Ac];have sm:=M.wf.sm;by_cases h1:z = -1
 ·simp only[h1,aB,Aa,Ac,Vx]
  exact .ret ⟨rfl,Au.refl _⟩
 ·simp only[h1,aA,Aa,Ac,Vx]
  rw[Ah hA rfl (v:=.ptr m 0) rfl];refine(Mx (K:=K) M hb).Am ?_;rintro _ h2 ⟨rfl,f⟩;have hd:=a.resolve_left h1;refine(Jh (K:=K) sm z (Akk sm (by omega)) h2).Am ?_;rintro _ n ⟨rfl,j⟩;simp only[I,Ac,hd,aB,Aa];exact .ret ⟨rfl,f.trans j⟩
theorem Btj(fA:F ar)(hi:i<3){v w:Int}(G:v = -1\/Eu S.g v=i)(hw:w = -1\/Eu S.g w=i)(J:¬v=w):Ok (Sk K (.ptr ar 0) (I i) (I v) (I w) h) fun r h'=>r=I 0/\Df h' m S F/\h'.get ar=some (.cells (arC m (N9 cur i v) (N9 Cv i w)) 212)/\Au (fun j=>j=ar) h h'/\HB h':=by
 simp only[Sk,Bl7 hi,Aa,Ac];refine(Be5 (K:=K) M hb hA G).Am ?_;rintro _ h2 ⟨rfl,o⟩;have a:=o.hb hb;have M2:=(M.ext hb o).less fun j (hj:F j)=>Or.inl hj
 simp only[Aa,Ac,Ai4];refine(Be5 (K:=K) M2 a (o.at hb hA) hw).Am ?_;rintro _ p ⟨rfl,u⟩;have f:=u.hb a;have x:Ext h p:=o.trans u;have O:=(M.ext hb x).less fun j (hj:F j)=>Or.inl hj
 have n:=x.at hb hA;have E:=f _ _ n;simp only[Aa,Ac,Air,I,J,aA,Ajc,Ajd,Ahy,Ahm];rw[Aw (l:=[I v,I w]) rfl]
 try simp only[Aa]
 rw[Vo hi];refine Ok.st (arC m (N9 cur i v) (N9 Cv i w)) n rfl rfl (Bb8 hi v w) ?_;have c:Au (fun j=>j=ar) p (p.put ar (.cells (arC m (N9 cur i v) (N9 Cv i w)) 212)):=(Au.refl (S:=fun j=>j=ar) p).Ao (.inl rfl) E _;exact .ret ⟨rfl,O.Agw c fun j hj _=>hj▸fA,Ae _ _ _,(Ext.to x).trans c,f.put E _⟩
end
end
structure Co where
 S:Mi
 cur:Nat->Int
 Cv:Nat->Int
 es:List Me
 gen:Int
 ep:Int
 nx:Int
 st:Bool
structure Cb where
 c:Nat
 ar:Nat
 m:Nat
 b:Nat
 ml:Nat
 ll:Nat
def Cb.own(B:Cb)(i:Nat):Prop:=i=B.c\/i=B.ar\/i=B.b\/i=B.ml\/i=B.ll
def Cb.fr(B:Cb)(F:Nat->Prop)(i:Nat):Prop:=F i\/B.own i
def Co.cells(B:Cb)(X:Co):List EV:=[.ptr B.m 0,.ptr B.ar 0,.ptr B.b 0,I X.gen,I X.ep,I X.nx,.bool X.st]
structure Co.Wf(X:Co):Prop where
 rt:rtB X.S.g=true
 an:Aha X.S X.cur X.Cv
 sz:0<X.S.dr.dv.size
structure Cu(h:Ab)(B:Cb)(X:Co)(F:Nat->Prop):Prop where
 M:Df h B.m X.S (B.fr F)
 core:h.get B.c=some (.cells (X.cells B) 130)
 ar:h.get B.ar=some (.cells (arC B.m X.cur X.Cv) 212)
 map:Lj h B.b B.ml B.ll X.S.g X.es
 wf:X.Wf
 out:∀i,F i->¬B.own i
 hb:HB h
def Ck(X Y:Co):Prop:=Mk X.S Y.S
theorem Ck.refl(X:Co):Ck X X:=Mk.refl _
theorem Ck.trans {X Y Z:Co}(a:Ck X Y)(b:Ck Y Z):Ck X Z:=Mk.trans a b
structure Ex(h h':Ab)(B:Cb)(X:Co)(F:Nat->Prop)(Y:Co):Prop where
 C:Cu h' B Y F
 k:Kf F h h'
 ck:Ck X Y
section
variable {h':Ab}{B:Cb}{X Y:Co}
theorem Cu.ne(C:Cu h B X F):B.c≠B.ar/\B.c≠B.b/\B.c≠B.ml/\B.c≠B.ll/\B.ar≠B.b/\B.ar≠B.ml/\B.ar≠B.ll/\B.b≠B.ml/\B.b≠B.ll/\B.ml≠B.ll:=
 ⟨Ba C.core C.ar (by simp),Ba C.core C.map.map (by simp),Ba C.core C.map.row (by simp),Ba C.core C.map.live (by simp),Ba C.ar C.map.map (by simp),Ba C.ar C.map.row (by simp),Ba C.ar C.map.live (by simp),
  Ba C.map.map C.map.row (by simp),Ba C.map.map C.map.live (by simp),Ba C.map.row C.map.live (by simp)⟩
theorem Cu.sm(C:Cu h B X F):Sm X.S.g:=C.M.wf.sm
theorem Ex.refl(C:Cu h B X F):Ex h h B X F X:=⟨C,Au.refl _,Ck.refl _⟩
theorem Ex.trans {f:Ab}{X Y Z:Co}(a:Ex h1 h2 B X F Y)(b:Ex h2 f B Y F Z):Ex h1 f B X F Z:=⟨b.C,a.k.trans b.k,a.ck.trans b.ck⟩
theorem Ex.hb(a:Ex h h' B X F Y):HB h':=a.C.hb
theorem Df.kp(M:Df h m S F)(k:Kp T h h'):Df h' m S (Bi F h h'):=by
 refine⟨(M.s.frame k.chg.next fun i hi=>k.same i hi.1).mono (fun i hi=>⟨aN hi.1 k.chg.next,fun y=>?_⟩) fun i hi=>hi.1,Bi.lt M.lt k.chg.next,M.wf⟩;rcases y with y|y
 ·exact hi.2 y
 ·have:=hi.1;omega
theorem Cu.kp(C:Cu h B X F)(k:Kp T h h'):Cu h' B X (Bi F h h'):=by
 refine⟨(C.M.kp k).less fun i hi=>?_,k.at C.hb C.core,k.at C.hb C.ar,C.map.ext fun i o g=>k.at C.hb g,C.wf,fun i hi=>?_,k.chg.hb C.hb⟩
 ·rcases hi with(hi|hi)|hi
  ·exact .inl (.inl hi)
  ·exact .inr hi
  ·exact .inl (.inr hi)
 ·rcases hi with hi|hi
  ·exact C.out i hi
  ·intro y
   have a:=C.hb _ _ C.core;have f:=C.hb _ _ C.ar;have a3:=C.hb _ _ C.map.map;have a4:=C.hb _ _ C.map.row;have j:=C.hb _ _ C.map.live;rcases y with y|y|y|y|y<;>omega
theorem Cu.less(C:Cu h B X F)(s:∀i,F' i->F i):Cu h B X F':=
 ⟨C.M.less fun i hi=>hi.imp (s i) id,C.core,C.ar,C.map,C.wf,fun i hi=>C.out i (s i hi),C.hb⟩
theorem Cu.ext(C:Cu h B X F)(x:Ext h h'):Cu h' B X (Bi F h h'):=C.kp (T:=fun _=>False) (Ext.kp x)
theorem Cu.Xa(C:Cu h B X F)(x:Ext h h'):Ex h h' B X F X:=⟨(C.ext x).less fun _=>.inl,Ext.kf x,Ck.refl _⟩
theorem Cu.toK(C:Cu h B X F)(k:Kp T h h')(t:∀i,T i->¬F i):Ex h h' B X F X:=⟨(C.kp k).less fun _=>.inl,k.chg.mono t,Ck.refl _⟩
theorem Co.Wf.Hf(w:X.Wf)(mk:Mk X.S S'):({ X with S:=S' }:Co).Wf:=⟨by show rtB S'.g=true;rw[mk.g];exact w.rt,w.an.of mk.g,by show 0<S'.dr.dv.size;rw[mk.dr.size];exact w.sz⟩
theorem Cu.Hf(C:Cu h B X F)(f:Df h' B.m S' (B.fr F))(k:Kf (B.fr F) h h')(a:HB h')(mk:Mk X.S S'):Ex h h' B X F { X with S:=S' }:=by
 have g:S'.g=X.S.g:=mk.g;exact⟨⟨f,k.at C.hb C.core (.inr (.inl rfl)),k.at C.hb C.ar (.inr (.inr (.inl rfl))),by
  show Lj h' B.b B.ml B.ll S'.g X.es;rw[g];exact C.map.frame (k.get _ (C.hb _ _ C.map.map) fun y=>y (.inr (.inr (.inr (.inl rfl))))) (k.get _ (C.hb _ _ C.map.row) fun y=>y (.inr (.inr (.inr (.inr (.inl rfl)))))) (k.get _ (C.hb _ _ C.map.live) fun y=>y (.inr (.inr (.inr (.inr (.inr rfl)))))),
  C.wf.Hf mk,C.out,a⟩,k.less fun _=>.inl,mk⟩
theorem Cu.Buf(C:Cu h B X F){cur' old':Nat->Int}(f:Df h' B.m S' (B.fr F))(hA:h'.get B.ar=some (.cells (arC B.m cur' old') 212))(c:Au (fun j=>¬B.fr F j\/j=B.ar) h h')(a:HB h')(mk:Mk X.S S')(an:Aha S' cur' old'):
 Ex h h' B X F { X with S:=S',cur:=cur',Cv:=old' }:=by
 have g:S'.g=X.S.g:=mk.g;obtain⟨n1,E,n3,n4,n,o,p,G,J,u⟩:=C.ne;have kp:∀i,B.own i->i≠B.ar->¬(¬B.fr F i\/i=B.ar):=fun i hi v y=>y.elim (fun y=>y (.inr hi)) v
 exact⟨⟨f,c.at C.hb C.core (kp _ (.inl rfl) n1),hA,by
  show Lj h' B.b B.ml B.ll S'.g X.es;rw[g];exact C.map.frame (c.get _ (C.hb _ _ C.map.map) (kp _ (.inr (.inr (.inl rfl))) n.symm)) (c.get _ (C.hb _ _ C.map.row) (kp _ (.inr (.inr (.inr (.inl rfl)))) o.symm)) (c.get _ (C.hb _ _ C.map.live) (kp _ (.inr (.inr (.inr (.inr rfl)))) p.symm)),
  ⟨by show rtB S'.g=true;rw[g];exact C.wf.rt,an,by show 0<S'.dr.dv.size;rw[mk.dr.size];exact C.wf.sz⟩,C.out,a⟩,
  c.mono fun i hi y=>hi.elim (fun w=>w (.inl y)) fun w=>C.out i y (w▸.inr (.inl rfl)),mk⟩
theorem Cu.Buk(C:Cu h B X F){a:List Me}(mp:Lj h' B.b B.ml B.ll X.S.g a)(c:Au (fun i=>i=B.ml\/i=B.ll) h h')(f:HB h'):Ex h h' B X F { X with es:=a }:=by
 obtain⟨n1,u,n3,n4,v,n,o,E,G,p⟩:=C.ne;have j:∀i,i=B.ml\/i=B.ll->B.own i:=fun i hi=>hi.elim (fun y=>.inr (.inr (.inr (.inl y)))) fun y=>.inr (.inr (.inr (.inr y)))
 exact⟨⟨C.M.Agw c fun i hi _=>.inr (j i hi),c.at C.hb C.core fun y=>y.elim n3 n4,c.at C.hb C.ar fun y=>y.elim n o,mp,⟨C.wf.rt,C.wf.an,C.wf.sz⟩,C.out,f⟩,c.mono fun i hi y=>C.out i y (j i hi),Mk.refl _⟩
theorem Cu.Bk6(C:Cu h B X F)(g e n:Int)(s:Bool):Ex h (h.put B.c (.cells (({ X with gen:=g,ep:=e,nx:=n,st:=s }:Co).cells B) 130)) B X F { X with gen:=g,ep:=e,nx:=n,st:=s }:=by
 obtain⟨n1,a,n3,n4,j,o,p,u,v,f⟩:=C.ne;have l:=C.hb _ _ C.core;have c:Au (fun i=>i=B.c) h (h.put B.c (.cells (({ X with gen:=g,ep:=e,nx:=n,st:=s }:Co).cells B) 130)):=(Au.refl (S:=fun i=>i=B.c) h).Ao (.inl rfl) l _;exact⟨⟨C.M.Agw c fun i hi _=>.inr (.inl hi),Ae _ _ _,by rw[Af _ n1];exact C.ar,C.map.frame (Af _ a) (Af _ n3) (Af _ n4),⟨C.wf.rt,C.wf.an,C.wf.sz⟩,C.out,C.hb.put l _⟩,c.mono fun i hi y=>C.out i y (.inl hi),Mk.refl _⟩
theorem Cu.Agw(C:Cu h B X F)(c:Au T h h')(t:∀i,T i->i<h.next->F i)(a:HB h'):Cu h' B X F:=by
 have no:∀i,B.own i->i<h.next->¬T i:=fun i hi f y=>C.out i (t i y f) hi
 have l1:=C.hb _ _ C.core;have p:=C.hb _ _ C.ar;have j:=C.hb _ _ C.map.map;have n:=C.hb _ _ C.map.row;have o:=C.hb _ _ C.map.live;exact⟨C.M.Agw c fun i hi f=>.inl (t i hi f),c.at C.hb C.core (no _ (.inl rfl) l1),c.at C.hb C.ar (no _ (.inr (.inl rfl)) p),
  C.map.frame (c.get _ j (no _ (.inr (.inr (.inl rfl))) j)) (c.get _ n (no _ (.inr (.inr (.inr (.inl rfl)))) n)) (c.get _ o (no _ (.inr (.inr (.inr (.inr rfl)))) o)),C.wf,C.out,a⟩
end
section
variable{B:Cb}{X:Co}(C:Cu h B X F)
include C
theorem Cu.ldM(k:EV->R):Fy (.ptr B.c 0) h k=k (.ptr B.m 0):=Ah C.core rfl rfl
theorem Cu.Gy(k:EV->R):Fy (.ptr B.c 1) h k=k (.ptr B.ar 0):=Ah C.core rfl rfl
theorem Cu.ldB(k:EV->R):Fy (.ptr B.c 2) h k=k (.ptr B.b 0):=Ah C.core rfl rfl
theorem Cu.ldG(k:EV->R):Fy (.ptr B.c 3) h k=k (I X.gen):=Ah C.core rfl rfl
theorem Cu.ldE(k:EV->R):Fy (.ptr B.c 4) h k=k (I X.ep):=Ah C.core rfl rfl
theorem Cu.ldN(k:EV->R):Fy (.ptr B.c 5) h k=k (I X.nx):=Ah C.core rfl rfl
theorem Cu.ldS(k:EV->R):Fy (.ptr B.c 6) h k=k (.bool X.st):=Ah C.core rfl rfl
end
end Go.Ev
