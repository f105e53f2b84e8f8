import Derived.Test.YtokpnommcenoaaaGreatZa
import Derived.Test.YtokpnommcenoaaaGreatXb
set_option linter.all false
namespace Go.Ev
open Go.Proofs
set_option maxRecDepth 100000
variable {p x y:List EV}{D K V b d i j m n:Nat}{h h':Ab}{e:Lo}{Z:Zn}{F G F':Nat->Prop}{ms:List (EV × EV)}{S:Mi}{ev:List Lo}{Q:EV->Ab->Prop}{g:Gm}{ps:Nat->List Int}{P:Int->Prop}{disp:Nat->Option FT}
theorem Avd(a:x.length=64)(f:y.length=64):(X6 x y).length=64:=by unfold X6;rw[List.length_zipWith,a,f];rfl
theorem U8.at(u:U8 x)(f:i<x.length):∃a:Nat,a<256/\x[i]=.int .u8 (Int.ofNat a):=by
 obtain⟨l,k,rfl⟩:=u;rw[Bg]at f;exact⟨l[i],k _ (av _),by simp[Bj]⟩
theorem U8.xor(f:U8 x)(k:U8 y):U8 (X6 x y):=by
 obtain⟨a,o,rfl⟩:=f;obtain⟨b,hb,rfl⟩:=k;refine⟨List.zipWith Nat.xor a b,fun c q=>?_,?_⟩
 ·obtain⟨i,t,rfl⟩:=List.getElem_of_mem q
  rw[List.getElem_zipWith];rw[List.length_zipWith]at t;exact dZ (n:=8) (o _ (av _)) (hb _ (av _))
 ·unfold X6 Bj
  rw[List.zipWith_map,List.map_zipWith];rfl
theorem Bnc {h0:Ab}{b2 b3 b4:Nat}(O:x.length=64)(T:y.length=64)(U:U8 x)(W:U8 y)(X:h0.next<=b2)(l3:b2<b3)(l4:b3<b4):∀(m i:Nat) (h:Ab) (l:List EV),64-i<m->i<=64->HB h->Ext h0 h ->
 h.get b2=some (.cells l 30)->l.length=64->(∀j,j<64->l[j]? = if j<i then(X6 x y)[j]? else x[j]?)->h.get b3=some (.cells y 30)->h.get b4=some (.cells Vl 30) ->
 Ok (Km K m (.ptr b2 0) (.ptr b3 0) (.ptr b4 0) (.int .i64 (i:Int)) h) fun v h'=>v=.agg (X6 x y)/\Ext h0 h'/\HB h':=by
 intro m;induction m with
 | zero=>intro i h l hm;omega
 | succ m Y=>
  intro i h l hm hi hb c g2 k hj B C;have f:=hb _ _ g2;have E:=hb _ _ B;have o:=hb _ _ C;simp only[Km,Ac];by_cases q:i<64
  ·rw[aJ (show(i:Int)<64 by omega)]
   obtain⟨a,ha,L⟩:=U.at (i:=i) (by omega);obtain⟨b,H,eb⟩:=W.at (i:=i) (by omega);have e2:l[i]? = some (.int .u8 (Int.ofNat a)):=by rw[hj i q,aM (bS _),aH (by omega),L]
   have e3:y[i]? = some (.int .u8 (Int.ofNat b)):=by rw[aH (by omega),eb]
   have ex:(X6 x y)[i]? = some (Nk .u8 (a ^^^ b)):=by
    unfold X6;rw[List.getElem?_zipWith,aH (show i<x.length by omega),L,e3];rfl
   simp only[Aa,Aed,Oy q,bF,bk];rw[G2 f,Ah g2 rfl e2,G2 E,Ah B rfl e3,Bm0 ha H,Gt];refine Ok.st1 g2 rfl rfl (by omega) ?_;simp only[Ad2,Ac];rw[Ci];refine Y (i+1) _ (l.set i (Nk .u8 (a ^^^ b))) (by omega) (by omega) (hb.put f _) (c.Ao (.inr X) f _) (Af _ _ _) (by rw[bV];exact k) (fun j J=>?_) ?_ ?_
   ·rw[List.getElem?_set]
    by_cases t:i=j
    ·subst t;rw[aQ rfl,aQ (by omega),aQ (by omega),ex]
    ·rw[aM t,hj j J]
     by_cases u:j<i
     ·rw[aQ u,aQ (by omega)]
     ·rw[aM u,aM (by omega)]
   ·rw[Ae _];exact B
   ·rw[Ae _];exact C
  ·have:i=64:=by omega
   subst this;have el:l=X6 x y:=by
    refine eE fun j=>?_
    by_cases u:j<64
    ·rw[hj j u,aQ u]
    ·rw[cF (by omega),cF (by rw[Avd O T];omega)]
   subst el;simp only[show ¬((64:Nat):Int)<64 by omega,aA,Aa,Aeb];rw[Cz g2 rfl,Aj k];simp only[Aa];refine Ok.st (X6 x y) C rfl (by show Fl (X6 x y)=64;rw[Bf,k]) (Bl (by rw[Ku];exact k.symm)) ?_;rw[Q6 (Af _ _ _) Az3.1 Az3.2 k];exact .ret ⟨rfl,c.Ao (.inr (by omega)) o _,hb.put o _⟩
theorem Bl6(a:x.length=64)(k:y.length=64)(o:U8 x)(q:U8 y)(hb:HB h)(hK:100<K):
 Ok (Pt K (.agg x) (.agg y) h) fun v h'=>v=.agg (X6 x y)/\Ext h h'/\HB h':=by
 simp only[Pt,Aa];have f:Ext h (((h.new (.cells x 30)).new (.cells y 30)).new (.cells (List.replicate 64 (.int .u8 0)) 30)):=((As.new _ _).Da _).Da _;refine Bnc (h0:=h) (x:=x) (y:=y) a k o q (b2:=h.next) (b3:=h.next+1) (b4:=h.next+2) (aD _) (by omega) (by omega) K 0 _ x (by omega) (by omega) (f.hb hb) f ?_ a (fun j _=>by rw[aM (cn _)]) ?_ (Ad _ _)
 ·rw[Az _ (by show h.next<h.next+1+1;omega),Az _ (by show h.next<h.next+1;omega)];exact Ad _ _
 ·rw[Az _ (by show h.next+1<h.next+1+1;omega)];exact Ad _ _
theorem Bhu(A:By disp){e:Nat}(he:2<=e)(E:h.get b=some (.cells p 30))(t:x.length=64)(u:p.length=64)(H:U8 x)(up:U8 p)(hb:HB h)(hK:100<K):
 Ok (Sh (Ag TT disp K e false) (Ag TT disp K e true) (.func 307 [] [.ptr b 0]) [.agg x] h) fun v h'=>v=.agg (X6 x p)/\Ext h h'/\HB h':=by
 obtain⟨d,rfl⟩:∃k,e=k+1:=⟨e-1,by omega⟩;show Ok (Ag TT disp K (d+1) false 307 [.agg x,.ptr b 0] h) _;rw[Akd A (by omega)];simp only[Aea,Aa];have q:Ext h ((h.new (.cells x 30)).new (.cells (List.replicate 64 (.int .u8 0)) 30)):=(As.new _ _).Da _;have g2:((h.new (.cells x 30)).new (.cells (List.replicate 64 (.int .u8 0)) 30)).get h.next=some (.cells x 30):=by
  rw[Az _ (by show h.next<h.next+1;omega)];exact Ad _ _
 have f:((h.new (.cells x 30)).new (.cells (List.replicate 64 (.int .u8 0)) 30)).get (h.next+1)=some (.cells Vl 30):=Ad _ _;rw[show(h.new (.cells x 30)).next=h.next+1 from rfl];generalize (h.new (.cells x 30)).new (.cells (List.replicate 64 (.int .u8 0)) 30)=L at q g2 f⊢;have o:=q.hb hb;have J:=q.at hb E;rw[Cz g2 rfl,Aj t];simp only[Aa];rw[Cz J rfl,Aj u];simp only[Aa];refine(Bl6 (K:=K) t u H up o hK).Am ?_;rintro _ h2 ⟨rfl,C,a⟩;have f:=C.at o f;have B:=Avd t u;refine Ok.st (X6 x p) f rfl (by show Fl (X6 x p)=64;rw[Bf,B]) (Bl (by rw[Ku];exact B.symm)) ?_;rw[Q6 (Af _ _ _) Az3.1 Az3.2 B];exact .ret ⟨rfl,(q.trans C).Ao (.inr (by omega)) (a _ _ f) _,a.put (a _ _ f) _⟩
theorem Avb:∀(l vs:List EV),vs.length<=l.length->Jh l vs=some (vs++l.drop vs.length)
 | l,[],_=>by cases l<;>rfl
 | [],_::_,h=>by simp at h
 | a::l,v::vs,h=>by
  show(match Jh l vs with|some x=>some (v::x)|none=>none)=_;rw[Avb l vs (by simpa using h)];rfl
theorem Avc:∀(l:List EV) (off:Nat) (vs:List EV),off+vs.length<=l.length->Fm l off vs=some (l.take off++vs++l.drop (off+vs.length))
 | [],off,vs,h=>by
  have h0:off=0/\vs = []:=by simp at h;exact⟨h.1,h.2⟩
  obtain⟨rfl,rfl⟩:=h0;rfl
 | a::l,0,vs,h=>by
  show Jh (a::l) vs=_;rw[Avb _ _ (by omega)];simp
 | a::l,off+1,vs,h=>by
  show(match Fm l off vs with|some x=>some (a::x)|none=>none)=_;rw[Avc l off vs (by simp at h;omega)];simp only[fO,List.cons_append];rw[show off+1+vs.length=(off+vs.length)+1 by omega,List.drop_succ_cons]
theorem Amy {l vs:List EV}{off:Nat}(h:off+vs.length<=l.length):Mq l off vs=some (l.take off++vs++l.drop (off+vs.length)):=by rw[Vq,Avc _ _ _ h]
theorem Afm:∀(l:List (List EV)),(∀x∈l,x.length=n)->l.flatten.length=l.length*n
 | [],_=>by simp
 | a::l,hw=>by
  rw[br,aG,Afm l fun x f=>hw x (aT _ f),hw a (aV ..),bK,fP];omega
theorem Avu{l:List (List EV)}(hw:∀x∈l,x.length=n)(hj:j<l.length):l.flatten=(l.take j).flatten++l[j]++(l.drop (j+1)).flatten/\(l.take j).flatten.length=j*n/\l[j].length=n:=by
 refine⟨?_,?_,hw _ (av _)⟩
 ·have:l=l.take j++l[j]::l.drop (j+1):=by rw[<-dI hj,List.take_append_drop]
  conv=>lhs;rw[this]
  rw[cj,br,b9]
 ·rw[Afm (n:=n) _ fun x a=>hw x (bO a),bH,dW (by omega)]
theorem Bix{l:List (List EV)}(hw:∀x∈l,x.length=n)(hj:j<l.length):Mu l.flatten (j*n) n=some l[j]:=by
 obtain⟨e,a,h2⟩:=Avu hw hj;rw[e,E7 (by rw[aG,aG,a,h2];omega),<-a,b9,dG,<-h2,dM]
theorem A5n{l:List (List EV)}(hw:∀x∈l,x.length=n)(hj:j<l.length){v:List EV}(f:v.length=n):Mq l.flatten (j*n) v=some (l.set j v).flatten:=by
 obtain⟨e,a,h2⟩:=Avu hw hj;have e2:(l.set j v).flatten=(l.take j).flatten++v++(l.drop (j+1)).flatten:=by
  rw[List.set_eq_take_append_cons_drop,aQ hj,cj,br,b9]
 have k:l.flatten.length=j*n+n+(l.drop (j+1)).flatten.length:=by rw[e,aG,aG,a,h2]
 have t1:l.flatten.take (j*n)=(l.take j).flatten:=by rw[e,b9,<-a,dM]
 have t2:l.flatten.drop (j*n+n)=(l.drop (j+1)).flatten:=by
  rw[show j*n+n=((l.take j).flatten++l[j]).length by rw[aG,a,h2],e,dG]
 rw[Amy (by rw[k,f];omega),f,t1,t2,e2]
def Zn.change(Z:Zn)(off:Int)(p:List EV):Zn:=if 0<=off/\off<Z.l.length then { Z with l:=Z.l.set off.toNat (X6 (((Z.l[off.toNat]?).getD Vl)) p) }else Z
theorem Zn.Wf.change{size:Nat}(w:Z.Wf size)(off:Int)(f:U8 p):(Z.change off p).Wf size:=by
 unfold Zn.change;split
 ·refine⟨fun x a=>?_,w.st,by simp only[bV];exact w.safe,by simp only[bV];exact w.len,by simp only[bV];exact w.room⟩
  rcases dH a with a|a
  ·exact w.u8 x a
  ·rw[a]
   refine U8.xor ?_ f;cases k:Z.l[off.toNat]? with
   | none=>exact U8.zs
   | some y=>exact w.u8 _ (dO k)
 ·exact w
theorem A09(A:By disp){e:Nat}(he:2<=e){z q size:Nat}(o:E4 h z q size Z)(w:Z.Wf size)(hs:size<=64)(hb:HB h)(off:Int)(U:h.get b=some (.cells p 30))(L:p.length=64)(up:U8 p)(hK:100<K):
 Ok (Jv (Ag TT disp K e false) (Ag TT disp K e true) K (.ptr z 0) (I off) (.func 307 [] [.ptr b 0]) h) fun v h'=>v=I (if 0<=off/\off<Z.l.length then 0 else 31)/\E4 h' z q size (Z.change off p)/\As (fun j=>Z.l≠[]/\j=q) h h'/\HB h':=by
 obtain⟨s,g,r⟩:=o.An;have O:=hb _ _ g;have no:¬(0<=off/\off<Z.l.length)->Ok (some (I 31,h)) fun v h'=>v=I (if 0<=off/\off<Z.l.length then 0 else 31)/\E4 h' z q size (Z.change off p)/\As (fun j=>Z.l≠[]/\j=q) h h'/\HB h':=fun T=>by
  unfold Zn.change;rw[aM T,aM T];exact .ret ⟨rfl,o,As.refl _,hb⟩
 simp only[Jv,I,Ac];by_cases h0:off<0
 ·rw[aJ h0]
  simp only[Aa,Ac,Fh];exact no fun y=>by omega
 ·rw[aI h0]
  simp only[Aa,Ac,C0 g rfl,r.Hf];by_cases J:(Z.l.length:Int)<=off
  ·rw[aJ J]
   simp only[Aa,Fh];exact no fun y=>by omega
  ·rw[aI J]
   obtain⟨j,rfl⟩:∃j:Nat,off=j:=⟨off.toNat,by omega⟩;have hj:j<Z.l.length:=by omega
   have C:=r.block (by omega);have lq:=hb _ _ C;have f:(0:Int)<=(j:Int)/\(j:Int)<Z.l.length:=by omega
   unfold Zn.change;rw[aQ f,aQ f,bG,aH hj,Option.getD_some];obtain⟨_,k⟩:=(Avu o.wf hj).2;simp only[Aa,Fh,N0,Ar];rw[G2 O,C0 g rfl];simp only[Aa,Ar];rw[G2 O,C0 g rfl];simp only[Aa,Ar,r.ix hj];rw[G2 lq,Cp C rfl (Bix o.wf hj)];simp only[Ar];refine Ok.bE (Bhu (K:=K) A he (h:=h.lift) (by rw[Br];exact U) k L (w.u8 _ (av _)) up (Db hb) hK) (fun _ _ p=>p.2.1) ?_;rintro _ J h2 ⟨rfl,_,W⟩ sm E;have t:=E.hb hb;have u:=E.at hb C;have H:=Avd k L;rw[Gt,Bpj (v:=.agg (X6 Z.l[j] p)) u rfl (by show Fl (X6 Z.l[j] p)=64;rw[Bf,H]) (A5n o.wf hj H)];have B:=t _ _ u;refine .ret ⟨rfl,⟨⟨s,?_,?_⟩,fun x a=>?_⟩,(Ext.to E).Ao (.inl ⟨fun y=>by rw[y]at hj;simp at hj,rfl⟩) B _,t.put B _⟩
   ·rw[Ae _ (Ay C g (by simp))];exact E.at hb g
   ·refine .inr ⟨by rw[bV];omega,by rw[bV];exact r.slice (by omega),Af _ _ _,?_⟩
    rw[Afm (n:=64),bV];intro x a;rcases dH a with a|a
    ·exact o.wf x a
    ·rw[a];exact H
   ·rcases dH a with a|a
    ·exact o.wf x a
    ·rw[a];exact H
theorem A8p(A:By disp)(hd:4<=d){D:Dv}(s:G3 h V D F)(hb:HB h)(hK:100<K)(z off:Int)(H:p.length=64)(up:U8 p):
 Ok (Ag TT disp K d false 283 [.ptr V 0,I z,I off,.agg p] h) fun v h'=>(∃n:Int,v=I n/\(n=0↔D.has z=true/\0<=off/\off<(D.zs z.toNat).l.length))/\G3 h' V (D.Azi z off p) (Bi F h h')/\As F h h'/\HB h':=by
 obtain⟨e,rfl⟩:∃k,d=k+1:=⟨d-1,by omega⟩;rw[Aoo A (by omega)];simp only[Ahl,Aa];have t:Ext h (h.new (.cells p 30)):=As.new _ _;have E:(h.new (.cells p 30)).get h.next=some (.cells p 30):=Ad _ _
 have o:HB (h.new (.cells p 30)):=hb.new _;have s1:=s.ext t;generalize h.new (.cells p 30)=T at t E o s1⊢;rw[Afn s1];unfold Dv.Azi;cases J:D.has z with
 | false=>
  simp only[Aa,aW,gE,aY];exact .ret ⟨⟨13,rfl,by simp⟩,s1.grow s.lt t.next,Ext.to t,o⟩
 | true=>
  have U:=cO J;obtain⟨j,rfl⟩:∃j:Nat,z=j:=⟨z.toNat,by omega⟩;have hj:j<D.n:=by omega
  obtain⟨w,wl,zl,W,q,a,b⟩:=s1;have w':=w.zs j hj;simp only[Aa,Acq,a.list,a.Bhe hj,bG,gF];obtain⟨f,rfl⟩:∃k,e=k+1:=⟨e-1,by omega⟩;rw[Xh A (by omega)];refine(A09 (K:=K) (e:=f) A (by omega) (a.An j hj) w' w.size o off E H up hK).Am ?_;rintro _ h2 ⟨rfl,L,c2,u⟩;obtain⟨d3,B⟩:=G3.An w a b wl o hj (w'.change off up) L (c2.mono fun _=>.inr) u (fun y=>.inr ⟨rfl,fun e=>y (by unfold Zn.change;split<;>simp[e])⟩);refine .ret ⟨⟨_,rfl,by split<;>simp_all⟩,?_,(Ext.to t).trans B,u⟩;have d4:G3 h2 V (D.set j ((D.zs j).change off p)) (Bi F h h2):=d3.mono (fun i O=>by
   rcases O with y|y
   ·exact .inl y
   ·exact .inr ⟨bQ t.next y.1,y.2⟩) (Bi.lt s.lt (bQ t.next B.next))
  unfold Zn.change at d4;split
  ·rename_i C
   rw[aQ C]at d4;exact d4
  ·rename_i C
   rw[aM C]at d4;have e:D.set j (D.zs j)=D:=by
    unfold Dv.set;have:Aj7 D.zs j (D.zs j)=D.zs:=by funext i;unfold Aj7;split<;>simp_all
    rw[this]
   rw[e]at d4;exact d4
theorem Lo.len(w:e.Wf):e.cells.length=68:=by unfold Lo.cells;rw[aG,w.len];rfl
theorem Lo.Bms(w:e.Wf):Mu e.cells 4 64=some e.pat:=by
 rw[E7 (by rw[Lo.len w];omega)];show some ((e.pat).take 64)=_;rw[bR (by rw[w.len];omega)]
theorem Lo.one(e:Lo):e.cells[0]? = some (I e.Mw)/\e.cells[1]? = some (I e.kind)/\e.cells[2]? = some (I e.An)/\e.cells[3]? = some (I e.off):=⟨rfl,rfl,rfl,rfl⟩
theorem Ff.call {f h4:Ab}{M qc qh:Nat}{cs hs:EV}{S:K4}{dv:Dv}(s:Ff h D S G)(a:Agr h D V M qc qh cs hs ms S F G)(hb:HB h)(d3:G3 f V dv (Bi F h.lift f))(sm:Ahf f h4)(c4:As F h h4):
 Ff h4 D { S with dv:=dv } (Bi G h h4)/\As G h h4/\Agr h4 D V M qc qh cs hs ms { S with dv:=dv } (Bi F h h4) (Bi G h h4):=by
 have d4:G3 h4 V dv (Bi F h h4):=by
  have:=d3.frame (h':=h4) (by rw[sm.next];exact aD _) fun j _=>sm.get j
  refine this.mono (fun j hj=>?_) (Bi.lt a.dev.lt c4.next);rcases hj with y|y
  ·exact .inl y
  ·exact .inr ⟨y.1,by rw[sm.next];exact y.2⟩
 have:=s.put a hb d4 c4;exact⟨this.1,this.2,a.put hb d4 c4⟩
theorem A73(A:By disp)(hK:1000<K)(hd:6<=d){S:K4}(s:Ff h D S G)(hb:HB h)(w:e.Wf):
 Ok (Ag TT disp K d false 251 [.ptr D 0,.agg e.cells] h) fun v h'=>Ff h' D { S with dv:=S.dv.Azi e.An e.off e.pat } (Bi G h h')/\As G h h'/\HB h':=by
 obtain⟨dd,rfl⟩:∃k,d=k+1:=⟨d-1,by omega⟩;rw[Apx A (by omega)];simp only[Aky,Aa];have x1:Ext h (h.new (.cells e.cells 32)):=As.new _ _;have t:(h.new (.cells e.cells 32)).get h.next=some (.cells e.cells 32):=Ad _ _
 have B:HB (h.new (.cells e.cells 32)):=hb.new _;have s1:=s.ext x1;have n1:(h.new (.cells e.cells 32)).next=h.next+1:=rfl
 generalize h.new (.cells e.cells 32)=h1 at x1 t B s1 n1⊢;have nx:¬G h.next:=fun y=>bS _ (s.lt _ y)
 obtain⟨V,M,qc,qh,cs,hs,ms,F,a⟩:=s1.Mw;have lD:=B _ _ a.Dc;have l3:=B _ _ t;obtain⟨_,_,e2,e3⟩:=e.one;rw[G2 lD,C0 a.Dc rfl]
 try simp only[Aa,Ar]
 rw[G2 l3,Ah t rfl e2]
 try simp only[Aa,Ar]
 rw[G2 l3,Ah t rfl e3]
 try simp only[Aa,Ar]
 rw[G2 l3,Cp t rfl (Lo.Bms w)]
 try simp only[Aa,Ar]
 refine Ok.bC (S:=F) (A8p (K:=K) A (by omega) a.dev.lift (Db B) (by omega) e.An e.off w.len w.u8) (fun _ _ p=>p.2.2.1) ?_;rintro _ h3 h4 s' ⟨⟨n,rfl,_⟩,d3,_,al⟩ sm c4 _;obtain⟨s4,X,a4⟩:=s1.call a B d3 sm c4;have L:=sm.hb al;have t:=X.at B t nx;have fin:∀(f:Ab) (G5:Nat->Prop),Ff f D { S with dv:=S.dv.Azi e.An e.off e.pat } G5->(∀i,G5 i->Bi G h f i)->As (Bi G h1 h4) h4 f->HB f->Ok (some (.tuple [],f)) fun v h'=>Ff h' D { S with dv:=S.dv.Azi e.An e.off e.pat } (Bi G h h')/\As G h h'/\HB h':=fun f G5 s5 g5 c5 q=>by
  have cc:As G h f:=((Ext.to x1).trans X).then c5 fun j hj hl=>by
   rcases hj with y|y
   ·exact y
   ·omega
  exact .ret ⟨s5.mono g5 (Bi.lt s.lt cc.next),cc,q⟩
 have gr:∀f:Ab,h4.next<=f.next->∀i,Bi G h1 h4 i->Bi G h f i:=fun f l i E=>by
  rcases E with y|y
  ·exact .inl y
  ·exact .inr ⟨by omega,by omega⟩
 simp only[Ac,I];by_cases hn:n=0
 ·subst hn
  simp only[aC,aA,Aa,Aer];rw[Ah t rfl e2]
  try simp only[Aa]
  rw[Ah t rfl e3];rw[Aw (l:=[I e.An,I e.off]) rfl]
  try simp only[Aa]
  have C:Ext h4 (h4.new (.cells [I 0,I 0] 179)):=As.new _ _;have bz:(h4.new (.cells [I 0,I 0] 179)).get h4.next=some (.cells [I 0,I 0] 179):=Ad _ _
  refine Ok.st [I e.An,I e.off] (o:=0) (l:=[I 0,I 0]) (Ad _ _) rfl rfl rfl ?_;have C:Ext h4 ((h4.new (.cells [I 0,I 0] 179)).put h4.next (.cells [I e.An,I e.off] 179)):=(As.new h4 _:Ext _ _).Ao (.inr (aD _)) (aR _) _;have J:((h4.new (.cells [I 0,I 0] 179)).put h4.next (.cells [I e.An,I e.off] 179)).get h4.next=some (.cells [I e.An,I e.off] 179):=Af _ _ _
  have n5:((h4.new (.cells [I 0,I 0] 179)).put h4.next (.cells [I e.An,I e.off] 179)).next=h4.next+1:=rfl
  simp only[I]at C J n5⊢;generalize (h4.new (.cells [EV.int .i64 0,.int .i64 0] 179)).put h4.next (.cells [.int .i64 e.An,.int .i64 e.off] 179)=f at C J n5⊢
  have q:=C.hb L;have s5:=s4.ext C;have t:=C.at L t;have Y:=a4.frame C.next fun i E=>C.get i (s4.lt i E) id
  have au:=q _ _ Y.Dc;have aw:=q _ _ J;have b5:=q _ _ t;rw[G2 au,C0 Y.Dc rfl]
  try simp only[Aa,Ar]
  rw[G2 aw,Cp J rfl (Aj (n:=2) rfl)]
  try simp only[Aa,Ar]
  obtain⟨p,k,el,up,lp⟩:=Bja (h:=f.lift) (by rw[Br];exact Y.map) Y.marks e.An e.off;simp only[kp,I]at el;rw[Af2 el]
  try simp only[Aa,Ar]
  have H:Ext f ((f.new (.cells (List.replicate 64 (EV.int .u8 0)++[EV.int .i64 0]) 342)).put f.next (.cells (p++[I k]) 342)):=(As.new f _:Ext _ _).Ao (.inr (aD _)) (aR _) _;have U:((f.new (.cells (List.replicate 64 (EV.int .u8 0)++[EV.int .i64 0]) 342)).put f.next (.cells (p++[I k]) 342)).get f.next=some (.cells (p++[I k]) 342):=Af _ _ _
  rw[Gt];refine Ok.st (p++[I k]) (Ad _ _) rfl (by show Fl (p++[I k])=65;rw[Bf,aG,lp];rfl) (Bl (by rw[aG,bT];show _=(p++[I k]).length;rw[aG,lp];rfl)) ?_;generalize (f.new (.cells (List.replicate 64 (EV.int .u8 0)++[EV.int .i64 0]) 342)).put f.next (.cells (p++[I k]) 342)=h6 at H U⊢
  have u:=H.hb q;have s6:=s5.ext H;have t:=H.at q t;have J:=H.at q J;have a6:=Y.frame H.next fun i E=>H.get i (s5.lt i E) id
  have ay:=u _ _ a6.Dc;have az:=u _ _ J;have a1:=u _ _ t;have aa:=u _ _ U
  try simp only[Aa,Ar]
  rw[G2 ay,C0 a6.Dc rfl]
  try simp only[Aa,Ar]
  rw[G2 az,Cp J rfl (Aj (n:=2) rfl)]
  try simp only[Aa,Ar]
  rw[G2 aa,Cp U rfl (l':=p) (by rw[E7 (by rw[aG,lp];show 0+64<=64+1;omega),dE,<-lp,dM])]
  try simp only[Aa,Ar]
  rw[G2 a1,Cp t rfl (Lo.Bms w)]
  try simp only[Aa,Ar]
  refine Ok.bE (Bl6 (K:=K) lp w.len up w.u8 (Db u) (by omega)) (fun _ _ p=>p.2.1) ?_;rintro _ b6 h7 ⟨rfl,_,_⟩ b7 O;have T:=O.hb u;have s7:=s6.ext O;have a7:=a6.frame O.next fun i E=>O.get i (s6.lt i E) id
  have U:=O.at u U
  try simp only[Aa,Ar]
  rw[G2 aa,Ah U rfl (v:=I k) (by rw[bY (by omega),lp];rfl)];simp only[Aa,Ar,I,Ac];have W:=Avd lp w.len;rw[Aw (l:=X6 p e.pat++[I (Cx .i64 (k+1))]) (by
   show Abp (Df [(0,64),(64,1)]) [(0,.agg (X6 p e.pat)),(1,.int .i64 (Cx .i64 (k+1)))] (List.replicate 64 (.int .u8 0)++[.int .i64 0])=_;have e1:Mq (List.replicate 64 (EV.int .u8 0)++[EV.int .i64 0]) 0 (X6 p e.pat)=some (X6 p e.pat++[EV.int .i64 0]):=by
    rw[Amy (by rw[aG,W,bT];show 0+64<=64+1;omega),W];rfl
   have e2:Mq (X6 p e.pat++[EV.int .i64 0]) 64 [EV.int .i64 (Cx .i64 (k+1))]=some (X6 p e.pat++[I (Cx .i64 (k+1))]):=by
    rw[Amy (by rw[aG,W];show 64+1<=64+1;omega),<-W,dM,ct (by rw[aG];exact aD _),cS]
   show Ax (Nat.beq (Fl (X6 p e.pat)) 64) (oB (fun z=>Abp (Df [(0,64),(64,1)]) [(1,.int .i64 (Cx .i64 (k+1)))] z) (Mq (List.replicate 64 (EV.int .u8 0)++[EV.int .i64 0]) 0 (X6 p e.pat))) none=_;rw[Bf,W,cI,Ak,e1];show oB (fun z=>some z) (Mq (X6 p e.pat++[EV.int .i64 0]) 64 [EV.int .i64 (Cx .i64 (k+1))])=_;rw[e2];rfl)]
  obtain⟨ad,eu,a2⟩:=A7m (h:=h7.lift) (M:=M) (ms:=ms) (by rw[Br];exact a7.map) a7.marks e.An e.off (p:=X6 p e.pat) (n:=Cx .i64 (k+1)) (up.xor w.u8) W;simp only[kp,I]at eu;have lM:=T _ _ a7.map;refine Ok.bC (S:=fun i=>i=M) (P:=fun v h'=>v=.tuple []/\h'=h7.lift.put M (.map ad)) ⟨_,_,eu,rfl,rfl⟩ (fun _ _ p=>by rw[p.2];exact(As.refl (S:=fun i=>i=M) _).Ao (.inl rfl) (h:=h7.lift) lM _) ?_;rintro _ _ h9 cb ⟨rfl,rfl⟩ af c9 _;obtain⟨s8,c8,ch⟩:=s7.Bod a7 T a2;have e9:∀i,h9.get i=(h7.put M (.map ad)).get i:=fun i=>by
   rw[af.get,Ab.get_put,Ab.get_put,Br]
  have n9:h9.next=h7.next:=af.next
  have s9:=s8.frame (h':=h9) (by rw[n9];exact aD _) fun i _=>e9 i
  refine fin h9 _ s9 (gr h9 (by have:=C.next;have:=H.next;have:=O.next;omega)) ?_ (c9.hb T);refine((Ext.to C).trans ((Ext.to H).trans (Ext.to O))).then c9 fun i E _=>?_
  subst E;exact a4.sub.2.2.1
 ·simp only[hn,aE,aB,Aa]
  exact fin h4 _ s4 (gr h4 (aD _)) (As.refl _) L
theorem Agr.own{M qc qh f o:Nat}{cs hs q t:EV}{S:K4}(a:Agr h D V M qc qh cs hs ms S F G)(hb:HB h){Pu:List Lo}
 (g:h'.get D=some (.cells [.ptr V 0,q,t,.map M] 149)) (rc:Cc h' q f 32 68 ev.length (ev.map Lo.cells).flatten) (H:Cc h' t o 32 68 Pu.length (Pu.map Lo.cells).flatten)
 (n:h.next<=h'.next) (k:∀i,i<h.next->i≠D->(0<S.ev.length->i≠qc)->(0<S.Pu.length->i≠qh)->h'.get i=h.get i) (sz:∀i,G i->i<h.next)
 (C:0<ev.length->h.next<=f/\f<h'.next\/f=qc/\0<S.ev.length) (E:0<Pu.length->h.next<=o/\o<h'.next\/o=qh/\0<S.Pu.length) (ne:0<ev.length->0<Pu.length->f≠o) :
 Agr h' D V M f o q t ms ⟨S.dv,ev,Pu⟩ F (Bi G h h'):=by
 obtain⟨b1,b2,b3,b4,J⟩:=a.sub;obtain⟨c1,c2,c3,c4,c5⟩:=a.apart;have L:=hb _ _ a.map;have O:h'.get M=h.get M:=k _ L (Ay a.map a.Dc (by simp)) (fun y=>Ay a.map (a.F7.block y) (by simp)) (fun y=>Ay a.map (a.Aqv.block y) (by simp));refine⟨g,by rw[O];exact a.map,a.marks,rc,H,a.dev.frame n fun i u=>k i (sz i (b1 i u)) (fun y=>c1 (y▸u)) (fun y z=>c3 y (z▸u)) (fun y z=>c4 y (z▸u)),⟨fun i u=>.inl (b1 i u),.inl b2,.inl b3,fun y=>?_,fun y=>?_⟩,⟨c1,c2,fun y z=>?_,fun y z=>?_,ne⟩⟩
 ·rcases C y with z|⟨z,v⟩
  ·exact .inr z
  ·rw[z];exact .inl (b4 v)
 ·rcases E y with z|⟨z,v⟩
  ·exact .inr z
  ·rw[z];exact .inl (J v)
 ·rcases C y with x|⟨x,B⟩
  ·have:=sz _ (b1 _ z);omega
  ·rw[x]at z;exact c3 B z
 ·rcases E y with x|⟨x,B⟩
  ·have:=sz _ (b1 _ z);omega
  ·rw[x]at z;exact c4 B z
theorem Bjx(A:By disp)(hK:1000<K)(hd:7<=d){S:K4}(s:Ff h D S G)(hb:HB h)(w:e.Wf)(hn:S.ev.length+S.Pu.length<200):
 Ok (Ag TT disp K d false 224 [.ptr D 0,.agg e.cells] h) fun v h'=>Ff h' D { S with dv:=S.dv.Tm e,Pu:=S.Pu++[e] } (Bi G h h')/\As G h h'/\HB h':=by
 obtain⟨dd,rfl⟩:∃k,d=k+1:=⟨d-1,by omega⟩;rw[Aoe A (by omega)];simp only[Aij,Aa];have x1:Ext h (h.new (.cells e.cells 32)):=As.new _ _;have q:(h.new (.cells e.cells 32)).get h.next=some (.cells e.cells 32):=Ad _ _
 have E:HB (h.new (.cells e.cells 32)):=hb.new _;have s1:=s.ext x1;have n1:(h.new (.cells e.cells 32)).next=h.next+1:=rfl
 generalize h.new (.cells e.cells 32)=h1 at x1 q E s1 n1⊢;have nx:¬G h.next:=fun y=>bS _ (s.lt _ y)
 obtain⟨V,M,qc,qh,cs,hs,ms,F,a⟩:=s1.Mw;have lD:=E _ _ a.Dc;have l3:=E _ _ q;have el:=Lo.len w;rw[G2 lD,C0 a.Dc rfl]
 try simp only[Aa,Ar]
 rw[G2 l3,Cp q rfl (Aj el)]
 try simp only[Aa,Ar]
 rw[S7 (v:=.agg e.cells) (z:=List.replicate 4 (EV.int .i64 0)++List.replicate 64 (EV.int .u8 0)) rfl (by simp) el (by omega),Aq];obtain⟨h2,e_,U,gx,n2⟩:=nW h1 (.cells (EV.cells (.agg e.cells)) 32);rw[e_];have t:=U.hb E;have q:=U.at E q;have s2:=s1.ext U;have B:=a.frame U.next fun i O=>U.get i (s1.lt i O) id
 have r2:Cc h2.lift hs qh 32 68 S.Pu.length (S.Pu.map Lo.cells).flatten:=B.Aqv.frame fun _=>Br _ _
 obtain⟨h3,e3,r3,n3,c3⟩:=Aav (x:=.slice h1.next 0 1 1 false) (n:=1) r2 rfl (by omega) (by omega) (by omega) (Xt (b:=h1.next) (by rw[Br];exact gx) el) (by rw[el]);refine Ok.bC (S:=fun i=>0<S.Pu.length/\i=qh) (P:=fun v h'=>v=.slice h2.lift.next 0 (S.Pu.length+1) (S.Pu.length+1) true/\h'=h3) ⟨_,_,e3,rfl,rfl⟩ (fun _ _ p=>by rw[p.2];exact c3) ?_;rintro _ _ h4 s' ⟨rfl,rfl⟩ sm x4 a6;have T:=x4.hb t;rw[Alh]at r3 n3;rw[Alh];have a7:¬(0<S.Pu.length/\D=qh):=fun y=>Ay B.Dc (B.Aqv.block y.1) (by simp) y.2
 have gD:h4.get D=some (.cells [.ptr V 0,cs,hs,.map M] 149):=As.at x4 t B.Dc a7;have r4:Cc h4 (.slice h2.next 0 (S.Pu.length+1) (S.Pu.length+1) true) h2.next 32 68 (S.Pu.length+1) ((S.Pu.map Lo.cells).flatten++e.cells):=r3.frame fun _=>sm.get _
 have q:h4.get h.next=some (.cells e.cells 32):=As.at x4 t q fun y=>by
  have:=B.Aqv.block y.1;exact Ay q this (by simp) y.2
 have W:=T _ _ gD
 try simp only[Aa]
 rw[Gt (by rcases a6 with rfl|⟨w,rfl,_⟩<;>kernel_rfl)];refine Ok.st1 gD rfl rfl (by show 2<4;decide) ?_;simp only[List.set];have a8:=T _ _ q;have ah:h2.next<h4.next:=by
  have:=r4.block (by omega);exact T _ _ this
 have H:(h4.put D (.cells [EV.ptr V 0,cs,.slice h2.next 0 (S.Pu.length+1) (S.Pu.length+1) true,.map M] 149)).get D=some (.cells [EV.ptr V 0,cs,.slice h2.next 0 (S.Pu.length+1) (S.Pu.length+1) true,.map M] 149):=Af _ _ _;have k5:∀i,i≠D->(h4.put D (.cells [EV.ptr V 0,cs,.slice h2.next 0 (S.Pu.length+1) (S.Pu.length+1) true,.map M] 149)).get i=h4.get i:=fun i O=>Ae _ (cT O)
 have n5:(h4.put D (.cells [EV.ptr V 0,cs,.slice h2.next 0 (S.Pu.length+1) (S.Pu.length+1) true,.map M] 149)).next=h4.next:=rfl
 have u:HB (h4.put D (.cells [EV.ptr V 0,cs,.slice h2.next 0 (S.Pu.length+1) (S.Pu.length+1) true,.map M] 149)):=T.put W _;have c5:As (Bi G h1 h2) h2 (h4.put D (.cells [EV.ptr V 0,cs,.slice h2.next 0 (S.Pu.length+1) (S.Pu.length+1) true,.map M] 149)):=(x4.mono (fun i O=>.inl (by rw[O.2];exact B.sub.2.2.2.2 O.1))).Ao (.inl (.inl a.sub.2.1)) W _;generalize h4.put D (.cells [EV.ptr V 0,cs,.slice h2.next 0 (S.Pu.length+1) (S.Pu.length+1) true,.map M] 149)=f at H k5 n5 u c5⊢;have aj:h.next≠D:=fun y=>nx (y▸a.sub.2.1)
 have q:f.get h.next=some (.cells e.cells 32):=by rw[k5 _ aj];exact q
 have al:D<f.next:=by rw[n5];exact W
 have ao:h.next<f.next:=by rw[n5];exact a8
 have a5:Agr f D V M qc h2.next cs (.slice h2.next 0 (S.Pu.length+1) (S.Pu.length+1) true) ms ⟨S.dv,S.ev,S.Pu++[e]⟩ F (Bi G h2 f):=by
  refine B.own t H ?_ ?_ c5.next (fun i O h1 _ h3=>?_) s2.lt (fun y=>.inr ⟨rfl,y⟩) (fun _=>.inl ⟨aD _,by rw[n5];exact ah⟩) (fun y _=>?_)
  ·refine B.F7.frame fun y=>?_
   have gc:=B.F7.block y;rw[k5 _ (Ay gc B.Dc (by simp)),As.at x4 t gc fun z=>B.apart.2.2.2.2 y z.1 z.2,gc]
  ·rw[aG,bm,cj]
   show Cc f _ _ 32 68 (S.Pu.length+1) ((S.Pu.map Lo.cells).flatten++(e.cells++[]));rw[cS];exact r4.frame fun _=>k5 _ (by have:=t _ _ B.Dc;omega)
  ·rw[k5 i h1]
   exact x4.get i O fun y=>h3 y.1 y.2
  ·have:=t _ _ (B.F7.block y);omega
 have bb:∀i,Bi G h2 f i->i<f.next:=Bi.lt s2.lt c5.next
 have s5:Ff f D ⟨S.dv,S.ev,S.Pu++[e]⟩ (Bi G h2 f):=by
  refine⟨bb,⟨by rw[aG];show S.ev.length+(S.Pu.length+1)<=200;omega,s.wf.wf,fun x hx=>?_⟩,V,M,qc,_,cs,_,ms,F,a5⟩;rcases bP.1 hx with hx|hx
  ·exact s.wf.hwf x hx
  ·rw[aP.1 hx];exact w
 have aw:As G h f:=((Ext.to x1).trans (Ext.to U)).then c5 fun j hj hl=>by
  rcases hj with y|y
  ·exact y
  ·omega
 have cG:∀o,f.next<=o.next->As (Bi G h2 f) f o->As G h o:=fun o l c=>aw.then c fun j hj hl=>by
  rcases hj with y|y
  ·exact y
  ·have:=x1.next;have:=U.next;omega
 have fin:∀(o:Ab) (dv:Dv),Ff o D ⟨dv,S.ev,S.Pu++[e]⟩ (Bi (Bi G h2 f) f o)->As (Bi G h2 f) f o->HB o->dv=S.dv.Tm e->Ok (some (.tuple [],o)) fun v h'=>Ff h' D ⟨S.dv.Tm e,S.ev,S.Pu++[e]⟩ (Bi G h h')/\As G h h'/\HB h':=fun o dv X C J he=>by
  subst he;refine .ret ⟨X.mono (fun i O=>?_) (Bi.lt s.lt (cG o C.next C).next),cG o C.next C,J⟩;rcases O with(y|y)|y
  ·exact .inl y
  ·have:=x1.next;have:=U.next;have:=C.next;exact .inr ⟨by omega,by omega⟩
  ·exact .inr ⟨by have:=aw.next;omega,y.2⟩
 obtain⟨_,e1,e2,_⟩:=e.one;rw[Ah q rfl e1];simp only[Ac,I];have L:∀st:Nat,S.dv.fail e.An st=S.dv.Tm e ->
  Ok (J0 6 63 (((DX.ld ⟨0,[],[],[],[]⟩ 3 D).ld 5 h.next)) f (fun h=>Pd K (.ptr V 0) (I e.An) (I st) h) fun _ h s=>some (.tuple [],h)) fun v h'=>Ff h' D ⟨S.dv.Tm e,S.ev,S.Pu++[e]⟩ (Bi G h h')/\As G h h'/\HB h':=by
  intro st bf;refine Ok.bC (S:=F) (A9a (K:=K) a5.dev.lift (Db u) e.An st) (fun _ _ p=>p.2.1) ?_;rintro _ h6 o s' ⟨d6,_,bj⟩ sm C _;obtain⟨X,Y,_⟩:=s5.call a5 u d6 sm C;exact fin o _ X Y (sm.hb bj) bf
 by_cases k1:e.kind=1
 ·simp only[k1,aB,Aa]
  rw[Cp q rfl (Aj el)];refine(A73 (K:=K) A hK (by omega) s5 u w).Am ?_;rintro _ o ⟨X,C,J⟩;exact fin o _ X C J (by unfold Dv.Tm;rw[aQ k1])
 ·simp only[k1,aA,Aa]
  by_cases k2:e.kind=2
  ·simp only[k2,aB,Aa,Ar]
   rw[G2 al,C0 H rfl]
   try simp only[Aa,Ar]
   rw[G2 ao,Ah q rfl e2];exact L 3 (by unfold Dv.Tm;rw[aM k1,aQ k2])
  ·simp only[k2,aA,Aa]
   by_cases k3:e.kind=3
   ·simp only[k3,aB,Aa,Ar]
    rw[G2 al,C0 H rfl]
    try simp only[Aa,Ar]
    rw[G2 ao,Ah q rfl e2];exact L 4 (by unfold Dv.Tm;rw[aM k1,aM k2,aQ k3])
   ·simp only[k3,aA,Aa]
    by_cases k4:e.kind=4
    ·simp only[k4,aB,Aa,C0 H rfl]
     refine(A6l (K:=K) a5.dev u).Am ?_;rintro _ o ⟨d9,C,J⟩;obtain⟨X,Y⟩:=s5.put a5 u (d9.grow a5.dev.lt C.next) C;exact fin o _ X Y J (by unfold Dv.Tm;rw[aM k1,aM k2,aM k3,aQ k4])
    ·simp only[k4,aA,Aa]
     exact fin f S.dv (s5.grow s5.lt (aD _)) (As.refl _) u (by unfold Dv.Tm;rw[aM k1,aM k2,aM k3,aM k4])
theorem Bhv(q o n r:Nat)(op:Bool)(k:EV->R):J1 Akq (bin TT .eql 75) (.slice q o n r op) .Al k=k (.bool false):=by kernel_rfl
theorem Bcs(q o z:Nat)(k:EV->R):J1 Akq (bin TT .eql 75) (.tail q o z) .Al k=k (.bool false):=by kernel_rfl
theorem A61{q:Nat}(w:∀x∈e::ev,x.Wf)(J:ev.length<=65000)(u:h.get q=some (.vec ((e::ev).map Lo.cells).flatten 32 68))(hb:HB h){kk:EV->Ab->R}
 (o:∀v h' q',Cc h' v q' 32 68 ev.length (ev.map Lo.cells).flatten->Ext h h'->(0<ev.length->h.next<=q')->Ok (kk v h') Q) :
 Ok (Ae2 68 (.slice q 0 (e::ev).length (e::ev).length true) (some (.int .i64 1)) none none fun v=>Am (Ds K v h) kk) Q:=by
 have a:Ext h (h.new (.cells [] 32)):=As.new _ _;have t:Cd (List.replicate 4 (.int .i64 0)++List.replicate 64 (.int .u8 0)) 32 68 0 [] h=some (.slice h.next 0 0 0 false,h.new (.cells [] 32)):=rfl;have wl:∀x∈ev.map Lo.cells,x.length=68:=fun x B=>by
  obtain⟨y,C,rfl⟩:=cY.1 B;exact Lo.len (w y (aT _ C))
 have fl:(ev.map Lo.cells).flatten.length=ev.length*68:=by rw[Afm _ wl,bZ]
 rcases fB ev.length with h0|L
 ·have:ev = []:=bX.1 h0
  subst this;have e1:∀k:EV->R,Ae2 68 (.slice q 0 [e].length [e].length true) (some (.int .i64 1)) none none k=k (.tail q 68 0):=fun k=>rfl
  rw[e1];simp only[Ds,Bcs,Aa,Ft];rw[t,Aq];have:Eg 32 68 (.slice h.next 0 0 0 false) (.tail q 68 0) (h.new (.cells [] 32))=some (.slice h.next 0 0 0 false,h.new (.cells [] 32)):=by unfold Eg;rfl
  rw[this,Aq]
  try simp only[Aa]
  exact o _ _ 0 (.empty _ _ _ _ _) a fun y=>absurd y (bS _)
 ·obtain⟨m,hm⟩:∃m,ev.length=m+1:=⟨ev.length-1,by omega⟩
  have e1:∀k:EV->R,Ae2 68 (.slice q 0 (e::ev).length (e::ev).length true) (some (.int .i64 1)) none none k=k (.slice q 68 ev.length ev.length true):=fun k=>by
   rw[bK,hm];rfl
  rw[e1];simp only[Ds,Bhv,Aa,Ft];rw[t,Aq];have E:Pk (h.new (.cells [] 32)) 68 ev.length (.slice q 68 ev.length ev.length true)=some (ev.map Lo.cells).flatten:=by
   show Ax (Nat.beq ev.length 0) (some []) (Yq _ q 68 (Nat.mul ev.length 68))=_;rw[show Nat.beq ev.length 0=false by rw[hm];rfl,Bc];unfold Yq Awy;rw[a.at hb u];have el:=Lo.len (w e (aV ..));show Mu (e.cells++(ev.map Lo.cells).flatten) 68 (ev.length*68)=_;rw[E7 (by rw[aG,el,fl];exact aD _),<-el,dG,bR (by rw[fl,el];exact aD _)]
  have ap:=Yd (h:=h.new (.cells [] 32)) (b:=h.next) (e:=32) (x:=.slice q 68 ev.length ev.length true) rfl (by omega) E fl 0;rw[show ∀(x:R) (k f:EV->Ab->R),Am (Am x k) f=Am x fun v h=>Am (k v h) f from fun x k f=>by cases x<;>rfl];refine ap.Am ?_;rintro v h2 ⟨q',r,H,l⟩;rw[Aq];exact o v h2 q' r (a.trans H) fun y=>by have:=l y;have:=a.next;omega
theorem Bnx(A:By disp)(hK:1000<K)(hd:9<=d):∀(m:Nat) (S:K4) (h:Ab) (G:Nat->Prop),S.ev.length<m->Ff h D S G->HB h ->
 Ok (Ka (Ag TT disp K d false) (Ag TT disp K d true) K m (.ptr D 0) h) fun v h'=>Ff h' D S.due (Bi G h h')/\As G h h'/\HB h':=by
 intro m;induction m with
 | zero=>intro S h G hm;omega
 | succ m ih=>
  intro S h G hm s hb;obtain⟨V,M,qc,qh,cs,hs,ms,F,a⟩:=s.Mw;obtain⟨zl,z,q,b,_⟩:=a.dev.Mw;have lD:=hb _ _ a.Dc;have lV:=hb _ _ b.dev;have stay:S.due=S->Ok (some (.tuple [],h)) fun(_:EV) h'=>Ff h' D S.due (Bi G h h')/\As G h h'/\HB h':=fun y=>by
   rw[y];exact .ret ⟨s.grow s.lt (aD _),As.refl _,hb⟩
  simp only[Ka,Aa,Ar,Cg lD,C0 a.Dc rfl];have O:Tx K (.ptr V 0) h.lift=some (.bool S.dv.down,h.lift):=by
   simp only[Tx,Aa,C0 b.lift.dev rfl]
  rw[Af2 O];obtain⟨dv,ev,Pu⟩:=S;simp only at a O b hm⊢;cases T:dv.down with
  | true=>
   simp only[Aa,Ac,Ar,Nu,J6];refine stay ?_;unfold K4.due;cases ev with
   | nil=>rfl
   | cons e r=>unfold Azt;rw[aQ (.inl T)]
  | false=>
   simp only[Aa,Ac,Ar];rw[G2 lD,C0 a.Dc rfl];simp only[Aa,a.F7.Hf,Ac];cases ev with
   | nil=>
    simp only[fD,Nu,J6,Aa,Ac];exact stay rfl
   | cons e r=>
    have we:=s.wf.wf e (aV ..);have el:=Lo.len we;have gq:=a.F7.block (Nat.succ_pos _);have lq:=hb _ _ gq;have c0:Mu (((e::r).map Lo.cells).flatten) 0 68=some e.cells:=by
     show Mu (e.cells++_) 0 68=_;rw[E7 (by rw[aG,el];omega),dE,<-el,dM]
    have ag:(((e::r).map Lo.cells).flatten)[0]? = some (I e.Mw):=rfl;rw[aJ (show(0:Int)<((e::r).length:Int) by rw[bK];omega)];simp only[Nu,Aa,Ac,Ar];rw[G2 lD,C0 a.Dc rfl]
    try simp only[Aa,Ar]
    rw[show ∀k:EV->R,Zl 68 cs (.int .i64 0) k=k (.ptr qc (0*68))from fun k=>a.F7.ix (Nat.succ_pos _) .i64 k]
    try simp only[Aa,Ar]
    rw[G2 lq,Ah gq rfl ag]
    try simp only[Aa,Ar]
    rw[G2 lD,C0 a.Dc rfl]
    try simp only[Aa,Ar]
    have ah:Sc K (.ptr V 0) h.lift=some (I dv.cnt,h.lift):=by
     simp only[Sc,Aa,C0 b.lift.dev rfl]
    rw[Af2 ah];simp only[I,Ac];by_cases B:e.Mw<=dv.cnt
    ·rw[aJ B]
     simp only[J6,Aa,Ajp,C0 a.Dc rfl];rw[show ∀k:EV->R,Zl 68 cs (.int .i64 0) k=k (.ptr qc (0*68))from fun k=>a.F7.ix (Nat.succ_pos _) .i64 k];rw[Cp gq rfl c0]
     try simp only[Aa]
     have ai:(List.replicate 4 (EV.int .i64 0)++List.replicate 64 (EV.int .u8 0)).length=68:=by simp
     refine Ok.st e.cells (Ad _ _) rfl (by show Fl e.cells=68;rw[Bf,el]) (Bl (by rw[ai];exact el.symm)) ?_;obtain⟨E,e_,L,g2,_⟩:=nP h (.cells (List.replicate 4 (EV.int .i64 0)++List.replicate 64 (EV.int .u8 0)) 32) (.cells e.cells 32);rw[e_];have f:=L.hb hb;have s1:=s.ext L;have o:=a.frame L.next fun i t=>L.get i (s.lt i t) id
     have aj:=o.F7.block (Nat.succ_pos _);have al:=o.F7.slice (Nat.succ_pos _);subst al;simp only[Aa,C0 o.Dc rfl];have ao:=s.wf.ev;refine A61 (K:=K) s.wf.wf (by simp only[bK]at ao;omega) aj f ?_;intro v h2 q' r2 u H;have J:=u.hb f;have s2:=s1.ext u;have a2:=o.frame u.next fun i t=>u.get i (s1.lt i t) id
     have g2:=u.at f g2
     try simp only[Aa]
     have U:=J _ _ a2.Dc;refine Ok.st1 a2.Dc r2.plain.1 r2.plain.2 (by show 1<4;decide) ?_;simp only[List.set];have W:(h2.put D (.cells [EV.ptr V 0,v,hs,.map M] 149)).get D=some (.cells [EV.ptr V 0,v,hs,.map M] 149):=Af _ _ _;have k3:∀i,i≠D->(h2.put D (.cells [EV.ptr V 0,v,hs,.map M] 149)).get i=h2.get i:=fun i t=>Ae _ (cT t)
     have X:HB (h2.put D (.cells [EV.ptr V 0,v,hs,.map M] 149)):=J.put U _;have c3:As G h2 (h2.put D (.cells [EV.ptr V 0,v,hs,.map M] 149)):=(As.refl h2).Ao (.inl a.sub.2.1) U _;have n3:(h2.put D (.cells [EV.ptr V 0,v,hs,.map M] 149)).next=h2.next:=rfl
     generalize h2.put D (.cells [EV.ptr V 0,v,hs,.map M] 149)=C at W k3 X c3 n3⊢;have nD:h.next≠D:=by omega
     have g3:C.get h.next=some (.cells e.cells 32):=by rw[k3 _ nD];exact g2
     have rb:0<r.length->q'<h2.next:=fun y=>J _ _ (r2.block y)
     have a3:Agr C D V M q' qh v hs ms ⟨dv,r,Pu⟩ F (Bi G E C):=by
      have aq:E.next<=C.next:=by rw[n3];exact u.next
      have Y:∀i,i<E.next->i≠D->C.get i=E.get i:=fun i t au=>by rw[k3 i au,u.get i t id]
      refine o.own f W (r2.frame fun y=>k3 _ (by have:=H y;have:=f _ _ o.Dc;omega)) (o.Aqv.frame fun y=>Y _ (f _ _ (o.Aqv.block y)) (Ay (o.Aqv.block y) o.Dc (by simp))) aq (fun i t E _ _=>Y i t E) s1.lt
       (fun y=>.inl ⟨H y,by rw[n3];exact rb y⟩) (fun y=>.inr ⟨rfl,y⟩) fun y z=>?_
      have:=H y;have:=f _ _ (o.Aqv.block z);omega
     have aw:As G h C:=((Ext.to L).trans (Ext.to u)).trans c3;have s3:Ff C D ⟨dv,r,Pu⟩ (Bi G E C):=by
      refine⟨Bi.lt s1.lt (by rw[n3];exact u.next),⟨?_,fun x hx=>s.wf.wf x (aT _ hx),s.wf.hwf⟩,V,M,q',qh,v,hs,ms,F,a3⟩;have:=s.wf.ev;simp only[bK]at this⊢;omega
     rw[Cp g3 rfl (Aj el)];refine(Bjx (K:=K) A hK (by omega) s3 X we (by have:=s.wf.ev;simp only[bK]at this⊢;omega)).Am ?_;rintro _ h4 ⟨s4,c4,ax⟩;have aa:(K4.mk dv (e::r) Pu).due=(K4.mk (dv.Tm e) r (Pu++[e])).due:=by
      unfold K4.due
      conv=>lhs;unfold Azt
      rw[aM (by rw[T];rintro(y|y);exact absurd y (by simp);exact y B)]
     rw[aa];refine(ih ⟨dv.Tm e,r,Pu++[e]⟩ h4 _ (by simp only[bK]at hm⊢;omega) s4 ax).mono ?_;rintro _ h5 ⟨s5,c5,ay⟩;have t1:=L.next
     have t2:=u.next
     have t4:=c4.next
     have t5:=c5.next
     have az:As G h h4:=aw.then c4 fun j hj hl=>by
      rcases hj with y|y
      ·exact y
      ·omega
     have ab:As G h h5:=az.then c5 fun j hj hl=>by
      rcases hj with(y|y)|y
      ·exact y
      ·omega
      ·omega
     refine⟨s5.mono (fun i t=>?_) (Bi.lt s.lt ab.next),ab,ay⟩;rcases t with((y|y)|y)|y
     ·exact .inl y
     ·exact .inr ⟨by omega,by omega⟩
     ·exact .inr ⟨by omega,by omega⟩
     ·exact .inr ⟨by omega,y.2⟩
    ·rw[aI B]
     simp only[J6,Aa];refine stay ?_;unfold K4.due Azt;rw[aQ (.inr B)]
theorem A0o(A:By disp)(hK:1000<K)(S:K4):∀d,12<=d->Br1 disp K d S:=by
 intro d hd h D G s hb;obtain⟨e,rfl⟩:∃k,d=k+1:=⟨d-1,by omega⟩;rw[Aub A (by omega)];exact Bnx (K:=K) A hK (by omega) K S h G (by have:=s.wf.ev;omega) s hb
section
def Out(F:Nat->Prop)(h:Ab):Nat->Prop:=fun i=>i<h.next/\¬F i
abbrev Kf(F:Nat->Prop):Ab->Ab->Prop:=As fun i=>¬F i
theorem As.kf(c:As (Out F h) h h'):Kf F h h':=c.mono fun _ y=>y.2
theorem Ext.kf(c:Ext h h'):Kf F h h':=Ext.to c
theorem Kf.less(c:Kf F h h')(s:∀i,F' i->F i):Kf F' h h':=c.mono fun i y z=>y (s i z)
theorem Kf.at(c:Kf F h h')(hb:HB h){o:Ca}(g:h.get i=some o)(a:F i):h'.get i=some o:=As.at c hb g fun y=>y a
theorem Ext.Auj{a h2:Ab}(x:Ext h a)(c:Kf (Bi F h a) a h2):Kf F h h2:=by
 refine(Ext.to (S:=fun i=>¬F i) x).then c fun i y f z=>y (.inl z)
theorem Sq.frame{H:Nat->Prop}(s:Sq h m S H)(n:h.next<=h'.next)(e:∀i,H i->h'.get i=h.get i):Sq h' m S H:=by
 obtain⟨lt,D,p,bl,ql,np,q,c,G,a⟩:=s;obtain⟨t1,t2,t3,t4,t5,t6⟩:=a.sub;have k:∀i o,h.get i=some o->H i->h'.get i=some o:=fun i o g f=>by rw[e i f];exact g
 exact⟨fun i f=>aN (lt i f) n,D,p,bl,ql,np,q,c,G,⟨k _ _ a.Hi.Hi t2,k _ _ a.Hi.Az4 t3⟩,
  ⟨a.Gh.pos,k _ _ a.Gh.Gh t4,k _ _ a.Gh.row t5,fun d hd=>k _ _ (a.Gh.que d hd) (t6 d hd).1,fun d hd=>k _ _ (a.Gh.chan d hd) (t6 d hd).2,a.Gh.inj⟩,
  a.psz,a.drv.frame n fun i f=>e i (t1 i f),a.apart,a.sub⟩
structure Mi.Wp(S:Mi):Prop where
 sm:Sm S.g
 ps:∀d,d<S.g.D.toNat->∀x∈S.ps d,Ex S.g x=d/\¬S.bad x.toNat=1
structure Mi.Wf(S:Mi):Prop extends S.Wp where
 op:(S.a = -1/\S.b = -1)\/((0<=Ex S.g S.a/\¬S.bad S.a.toNat=1)/\(0<=Ex S.g S.b/\¬S.bad S.b.toNat=1))
theorem Ale(s:Sm g){z:Int}(h:0<=Ex g z):Rs z:=by
 have f:=s.d1;have h2:=s.z1;have k:=s.d0;have h4:=s.z0;rcases Afi s z with y|⟨_,_,_,o,q⟩
 ·omega
 ·obtain⟨t,u⟩:=Oi (a:=g.D) (b:=g.Z) (A:=8) (B:=64) (by omega) (by omega) (by omega) (by omega)
  exact⟨by omega,by omega⟩
theorem Avr(s:Sm g){z:Int}(h:0<=Ex g z):0<=z:=by
 rcases Afi s z with y|⟨_,_,_,a,f⟩<;>omega
theorem Mi.Wf.rng(w:S.Wf):Rs S.a/\Rs S.b:=by
 rcases w.op with⟨f,h2⟩|⟨f,h2⟩
 ·rw[f,h2];exact⟨⟨by omega,by omega⟩,⟨by omega,by omega⟩⟩
 ·exact⟨Ale w.sm f.1,Ale w.sm h2.1⟩
theorem A4z(w:∀d,d<g.D.toNat->∀x∈ps d,Ex g x=d/\P x)(n:Nat)(z:Int)(f:0<=Ex g z->P z):∀d,d<g.D.toNat->∀x∈(As2 g n ps z).2 d,Ex g x=d/\P x:=by
 intro d hd x a;unfold As2 at a;split at a
 ·exact w d hd x a
 ·rename_i h0
  split at a
  ·exact w d hd x a
  ·split at a
   ·simp only[upd]at a
    split at a
    ·rename_i e
     subst e;rcases bP.1 a with a|a
     ·exact w _ hd x a
     ·rw[aP.1 a];exact⟨by omega,f (by omega)⟩
    ·exact w d hd x a
   ·exact w d hd x a
theorem A63(S:Mi)(z u:Int):(S.leave z u).1.g=S.g/\(S.leave z u).1.a=S.a/\(S.leave z u).1.b=S.b/\(S.leave z u).1.u=S.u/\(S.leave z u).1.bad=S.bad:=by
 unfold Mi.leave;split
 ·exact⟨rfl,rfl,rfl,rfl,rfl⟩
 ·split<;>exact⟨rfl,rfl,rfl,rfl,rfl⟩
theorem Mi.Wp.leave(w:S.Wp)(z u:Int):(S.leave z u).1.Wp:=by
 unfold Mi.leave;split
 ·exact w
 ·rename_i h0
  split
  ·refine⟨w.sm,A4z w.ps _ _ fun a y=>h0 (.inr (.inl ?_))⟩
   unfold Mi.Jt;rw[aJ a,aJ y];rfl
  ·exact⟨w.sm,w.ps⟩
theorem A7e(S:Mi):S.close.1.g=S.g/\S.close.1.a = -1/\S.close.1.b = -1/\S.close.1.u=0/\S.close.1.bad=S.bad:=by
 unfold Mi.close;obtain⟨f,k,a3,a4,o⟩:=A63 { S with a:=-1,b:=-1,u:=0 } S.a S.u;obtain⟨b1,b2,b3,b4,q⟩:=A63 (({ S with a:=-1,b:=-1,u:=0 }:Mi).leave S.a S.u).1 S.b S.u;exact⟨b1.trans f,b2.trans k,b3.trans a3,b4.trans a4,q.trans o⟩
theorem Mi.Wp.close(w:S.Wp):S.close.1.Wf:=by
 have:({ S with a:=-1,b:=-1,u:=0 }:Mi).Wp:=⟨w.sm,w.ps⟩;obtain⟨k,f,a3,a4,o⟩:=A7e S;exact { toWp:=(this.leave _ _).leave _ _,op:=.inl ⟨f,a3⟩ }
theorem Mi.Wp.mark(w:S.Wp){z:Int}(o:0<=Ex S.g z):(S.mark z).Wp:=by
 refine⟨w.sm,fun d hd x a=>?_⟩;have a:x∈S.dropped z d:=a;unfold Mi.dropped at a;rw[aM (by omega)]at a;have key:∀x,Ex S.g x=d/\¬S.bad x.toNat=1->¬x=z->Ex S.g x=d/\¬(S.mark z).bad x.toNat=1:=fun x a q=>by
  refine⟨a.1,?_⟩;show ¬(if x.toNat=z.toNat then(1:Int)else S.bad x.toNat)=1;have f:=Avr w.sm o;have h2:=Avr w.sm (z:=x) (by rw[a.1];omega);rw[aM (by omega)];exact a.2
 simp only[upd]at a;split at a
 ·rename_i e
  have h2:=(eQ.1 a).2;have f:=w.ps d hd x (by rw[e];exact(eQ.1 a).1);exact key x f (cO h2)
 ·rename_i k
  have f:=w.ps d hd x a;refine key x f fun y=>k ?_
  subst y;omega
theorem Mi.Wf.Bx(w:S.Wf)(z:Int):(S.Bx z).1.Wf:=by
 unfold Mi.Bx;split
 ·exact w
 ·rename_i a
  have a:0<=Ex S.g z:=by omega
  split
  ·exact w
  ·split
   ·rename_i f
    refine { toWp:=w.toWp.mark a,op:=?_ };rcases w.op with y|⟨o,q⟩
    ·exact .inl y
    ·have key:∀x,(0<=Ex S.g x/\¬S.bad x.toNat=1)->¬z=x->0<=Ex S.g x/\¬(S.mark z).bad x.toNat=1:=fun x k f=>by
      refine⟨k.1,?_⟩;show ¬(if x.toNat=z.toNat then(1:Int)else S.bad x.toNat)=1;have t:=Avr w.sm a;have h2:=Avr w.sm k.1;rw[aM (by omega)];exact k.2
     exact .inr ⟨key _ o f.1,key _ q f.2⟩
   ·exact(w.toWp.mark a).close
theorem A5f{k:Nat->List Int}{x y:Int}(w:∀d,d<g.D.toNat->∀x∈ps d,Ex g x=d/\P x)(h:Au9 ps g.D.toNat=some (x,y,k)):
 ∃a b:Nat,a<g.D.toNat/\b<g.D.toNat/\a≠b/\ps a=x::k a/\ps b=y::k b/\(∀d,d≠a->d≠b->k d=ps d)/\Fe ps (-1) g.D.toNat=a/\Fe ps a g.D.toNat=b/\(Ex g x=a/\P x)/\(Ex g y=b/\P y):=by
 unfold Au9 at h;split at h
 ·cases h
 ·rename_i H
  obtain⟨a,b,e1,e2,C,h2,E,h4,J⟩:=A5d H Ati;rw[e1,e2]at h;injection h with h;injection h with o h;injection h with q f;simp only[bG]at o q f;obtain⟨L,r,u⟩:∃x r,ps a=x::r:=by cases v:ps a with|nil=>exact absurd v h4|cons x r=>exact⟨x,r,rfl⟩
  obtain⟨O,t,B⟩:∃x r,ps b=x::r:=by cases v:ps b with|nil=>exact absurd v J|cons x r=>exact⟨x,r,rfl⟩
  rw[u]at o f;rw[B]at q f;simp only[List.headD_cons,List.tail_cons]at o q f;subst o;subst q;subst f;refine⟨a,b,C,h2,E,?_,?_,fun d d1 d2=>?_,e1,e2,w a C _ (by rw[u];exact aV ..),w b h2 _ (by rw[B];exact aV ..)⟩
  ·rw[u];simp[upd,E]
  ·rw[B];simp[upd]
  ·simp[upd,d1,d2]
theorem Mi.Wf.ready(w:S.Wf):S.ready.1.Wf:=by
 unfold Mi.ready;split
 ·exact w
 ·split
  ·exact { toWp:=⟨w.sm,w.ps⟩,op:=w.op }
  ·cases o:Au9 S.ps S.g.D.toNat with
   | none=>exact { toWp:=⟨w.sm,w.ps⟩,op:=w.op }
   | some t=>
    obtain⟨x,y,k⟩:=t;obtain⟨a,b,E,h2,H,q,u,v,_,_,B,C⟩:=A5f w.ps o;refine { toWp:=⟨w.sm,fun d hd z f=>?_⟩,op:=.inr ⟨⟨by show 0<=Ex S.g x;omega,B.2⟩,⟨by show 0<=Ex S.g y;omega,C.2⟩⟩ };have f:z∈k d:=f;refine w.ps d hd z ?_;by_cases d1:d=a
    ·subst d1;rw[q];exact aT _ f
    ·by_cases d2:d=b
     ·subst d2;rw[u];exact aT _ f
     ·rw[v d d1 d2]at f;exact f
structure Dd(h:Ab)(m:Nat)(S:Mi)(F:Nat->Prop):Prop where
 s:Sq h m S (Out F h)
 lt:∀i,F i->i<h.next
 wf:S.Wf
section
variable{S':Mi}
theorem Dd.made(M:Dd h m S F)(s:Sq h' m S' (Bi (Out F h) h h'))(c:As (Out F h) h h')(w:S'.Wf):Dd h' m S' F/\Kf F h h':=by
 refine⟨⟨s.mono (fun i a=>?_) fun i a=>a.1,fun i a=>aN (M.lt i a) c.next,w⟩,c.kf⟩;rcases a with a|a
 ·exact⟨aN a.1 c.next,a.2⟩
 ·exact⟨a.2,fun y=>by have:=M.lt i y;omega⟩
theorem Dd.ext(M:Dd h m S F)(hb:HB h)(x:Ext h h'):Dd h' m S (Bi F h h'):=by
 refine⟨(M.s.ext hb x).mono (fun i a=>⟨aN a.1 x.next,fun y=>?_⟩) fun i a=>a.1,Bi.lt M.lt x.next,M.wf⟩;rcases y with y|y
 ·exact a.2 y
 ·have:=a.1;omega
theorem Dd.less(M:Dd h m S F)(s:∀i,F' i->F i):Dd h m S F':=
 ⟨M.s.mono (fun i a=>⟨a.1,fun y=>a.2 (s i y)⟩) fun i a=>a.1,fun i a=>M.lt i (s i a),M.wf⟩
theorem Dd.Afg {T:Nat->Prop}(M:Dd h m S F)(c:As T h h')(t:∀i,T i->i<h.next->F i):Dd h' m S F:=by
 refine⟨(M.s.frame c.next fun i a=>c.get i a.1 fun y=>a.2 (t i y a.1)).mono (fun i a=>⟨aN a.1 c.next,a.2⟩) fun i a=>a.1,fun i a=>aN (M.lt i a) c.next,M.wf⟩
theorem Dd.same(M:Dd h m S F)(sm:Ahf h h'):Dd h' m S F:=
 ⟨(M.s.frame (by rw[sm.next];exact aD _) fun i _=>sm.get i).mono (fun i a=>⟨by rw[sm.next];exact a.1,a.2⟩) fun i a=>a.1,fun i a=>by rw[sm.next];exact M.lt i a,M.wf⟩
end
section
variable (A:By disp)(hK:10000<K)(M:Dd h m S F)(hb:HB h)
include A hK M hb
theorem Bt0(n:Nat):Ave disp K n:=fun T _ d hd=>A0o A (by omega) T d hd
theorem Bi0(hd:16<=d):Ok (Ag TT disp K d false 232 [.ptr m 0] h) fun v h'=>v=I S.ready.2/\Dd h' m S.ready.1 F/\Kf F h h'/\HB h':=by
 refine(Azu A hK hd (Bt0 A hK M hb S.dr.ev.length) (aD _) M.s hb).mono ?_;rintro v h' ⟨e,s,c,a⟩;obtain⟨f,k⟩:=M.made s c M.wf.ready;exact⟨e,f,k,a⟩
theorem Ya(hd:18<=d){z:Int}(f:Rs z):Ok (Ag TT disp K d false 197 [.ptr m 0,I z] h) fun v h'=>v=I (S.Bx z).2/\Dd h' m (S.Bx z).1 F/\Kf F h h'/\HB h':=by
 refine(Ao5 A hK hd (Bt0 A hK M hb S.dr.ev.length) (aD _) M.s hb M.wf.rng.1 M.wf.rng.2 f).mono ?_;rintro v h' ⟨e,s,c,a⟩;obtain⟨o,k⟩:=M.made s c (M.wf.Bx z);exact⟨e,o,k,a⟩
end
end
theorem Ff.lift{S:K4}(d:Ff h D S G):Ff h.lift D S G:=d.frame (aD _) fun i _=>Br h i
theorem Ff.same {a h4:Ab}{S:K4}(d:Ff a D S (Bi G h.lift a))(sm:Ahf a h4):Ff h4 D S (Bi G h h4):=by
 refine(d.frame (h':=h4) (by rw[sm.next];exact aD _) fun j _=>sm.get j).mono (fun j hj=>?_) fun j hj=>?_
 ·rcases hj with y|y
  ·exact .inl y
  ·exact .inr ⟨y.1,by rw[sm.next];exact y.2⟩
 ·rw[sm.next]
  rcases hj with y|y
  ·exact d.lt _ (.inl y)
  ·rw[sm.next]at y;exact y.2
theorem Dd.drv{p bl ql np:Nat}{q c:Nat->Nat}{dr:K4}(M:Dd h m S F)(hb:HB h)(a:Aun h m D p bl ql np q c S G (Out F h))(d:Ff h' D dr (Bi G h h'))(f:As G h h'):
 Dd h' m { S with dr:=dr } F/\Kf F h h':=by
 have cH:=f.mono a.sub.1;exact M.made ⟨Bi.lt M.s.lt cH.next,D,p,bl,ql,np,q,c,_,a.Bco hb d f⟩ cH { toWp:=⟨M.wf.sm,M.wf.ps⟩,op:=M.wf.op }
noncomputable def Mi.put(S:Mi)(e:En)(An Bv Au seq:Int):Mi × Int:=
 if ¬(Jl { e with Bv:=Bv } An S.u Au seq).2=0 then(S,(Jl { e with Bv:=Bv } An S.u Au seq).2)else
 ({ S with dr:=(S.dr.append An (Bj (Aar (Jl { e with Bv:=Bv } An S.u Au seq).1))).1 },
  if(S.dr.append An (Bj (Aar (Jl { e with Bv:=Bv } An S.u Au seq).1))).2.2=0/\¬(S.dr.append An (Bj (Aar (Jl { e with Bv:=Bv } An S.u Au seq).1))).2.1=S.u then 30 else(S.dr.append An (Bj (Aar (Jl { e with Bv:=Bv } An S.u Au seq).1))).2.2)
theorem Au1:List.replicate 5 (EV.int .i64 0)++List.replicate 44 (EV.int .u8 0)=Fr.zero.cells:=by kernel_rfl
theorem Bfb(A:By disp)(hK:10000<K)(hd:16<=d)(M:Dd h m S F)(hb:HB h){e:En}(w:e.Wf)(An Bv Au seq:Int):
 Ok (Ag TT disp K d false 260 [.ptr m 0,.agg e.cells,I An,I Bv,I Au,I seq] h) fun v h'=>v=I (S.put e An Bv Au seq).2/\Dd h' m (S.put e An Bv Au seq).1 F/\Kf F h h'/\HB h':=by
 obtain⟨dd,rfl⟩:∃k,d=k+1:=⟨d-1,by omega⟩;rw[Aoc A (by omega)];have w':({ e with Bv:=Bv }:En).Wf:=⟨w.len,w.u8⟩;have el:=En.Ba w;have O:=En.Ba w';obtain⟨_,D,p,bl,ql,np,q,c,G,a⟩:=M.s;simp only[Ahp,Aa];refine Ok.st1 (Ad _ _) rfl rfl (by show 5<e.cells.length;omega) ?_;obtain⟨h1,T,x1,U,_⟩:=nP h (.cells e.cells 203) (.cells (e.cells.set 5 (I Bv)) 203);rw[T];have U:h1.get h.next=some (.cells ({ e with Bv:=Bv }:En).cells 203):=U
 unfold Mi.put;generalize ({ e with Bv:=Bv }:En)=e' at U w' O⊢;have B:=x1.hb hb;have l7:=B _ _ U;have m1:=a.Hi.ext fun i o g=>x1.at hb g
 have lm:=B _ _ m1.Hi;rw[G2 l7,Cz U rfl,Aj O]
 try simp only[Aa,Ar]
 rw[G2 lm,m1.ou]
 try simp only[Ar]
 refine Ok.bE (Afo (K:=K) w' (Db B) hK An S.u Au seq) (fun _ _ p=>p.2) ?_;rintro _ bf h2 ⟨rfl,_⟩ _ x2;have ah:=x2.hb B;have W:=A47 w' An S.u Au seq;generalize X:Jl e' An S.u Au seq=fe at W⊢;obtain⟨f,er⟩:=fe;have fl:=Fr.Ba W;have zl:=Fr.Ba Fr.Gp;simp only[Aa,Au1,Ar];rw[Gt];refine Ok.st f.cells (Ad _ _) rfl (by show Fl f.cells=49;rw[Bf,fl]) (Bl (by rw[zl];exact fl.symm)) ?_;obtain⟨h3,T,x3,Y,_⟩:=nP h2 (.cells Fr.zero.cells 247) (.cells f.cells 247);rw[T];have t:=x3.hb ah;have C:Ext h h3:=(x1.trans x2).trans x3;simp only[I,Ac];by_cases he:er=0
 ·subst he
  simp only[aC,aA,Aa,aY,Abt];obtain⟨hf,aj,_,_⟩:=A56 w' (An:=An) (off:=S.u) (Au:=Au) (seq:=seq) (by rw[X]);rw[X]at hf;have hf:f=_:=hf;have al:frB f=true:=by rw[hf];exact aj
  have m3:=a.Hi.ext fun i o g=>C.at hb g
  have aq:=t _ _ m3.Hi;have au:=t _ _ Y
  try simp only[Ar]
  rw[G2 aq,m3.table]
  try simp only[Aa,Ar]
  rw[G2 au,Cz Y rfl,Aj fl]
  try simp only[Aa,Ar]
  refine Ok.bE (Anc (K:=K) W al (Db t) hK) (fun _ _ p=>p.2) ?_;rintro _ bo h4 ⟨rfl,_⟩ _ x4;have aw:=x4.hb t;have ul:(Bj (Aar f)).length=64:=by rw[Bg,Axl W]
  try simp only[Aa,Ar]
  rw[Gt];refine Ok.st (Bj (Aar f)) (Ad _ _) rfl (by show Fl (Bj (Aar f))=64;rw[Bf,ul]) (Bl (by rw[bT];exact ul.symm)) ?_;obtain⟨h5,T,x5,aa,_⟩:=nP h4 (.cells (List.replicate 64 (EV.int .u8 0)) 30) (.cells (Bj (Aar f)) 30);rw[T];have E:=x5.hb aw;have ab:Ext h h5:=(C.trans x4).trans x5;have M5:=M.ext hb ab;clear m3 m1 a;obtain⟨_,D,p,bl,ql,np,q,c,G,a⟩:=M5.s;have ax:=E _ _ a.Hi.Hi;have ay:=E _ _ aa;simp only[Abw,Aa,Ac,I,aC,aA,Ar];rw[G2 ax,a.Hi.Dc]
  try simp only[Aa,Ar]
  rw[G2 ay,Cz aa rfl,Aj ul]
  try simp only[Aa,Ar]
  refine Ok.bC (S:=G) (As9 (K:=K) A (by omega) (d:=dd) (by omega) (fun k hk=>A0o A (by omega) S.dr k hk) a.drv.lift (Db E) An ul ⟨_,Bgk W,rfl⟩) (fun _ _ p=>p.2.2.1) ?_;rintro _ h6 h7 s' ⟨rfl,d6,_,az⟩ sm c7 _;have H:=sm.hb az;obtain⟨J,k7⟩:=M5.drv E a (d6.same sm) c7;have L:Kf F h h7:=ab.Auj k7;have J:=J.less fun i (hi:F i)=>Or.inl hi
  generalize S.dr.append An (Bj (Aar f))=ap at J⊢;obtain⟨dr,off,er⟩:=ap;obtain⟨_,D,p,bl,ql,np,q,c,G,a⟩:=J.s;simp only[Aa,I,Ac];by_cases h0:er=0
  ·simp only[h0,aB,Aa,a.Hi.ou,I,Ac,gF]
   by_cases h1:off=S.u
   ·simp only[h1,aC,aA,Aa,Nq,Nt,aY]
    exact .ret ⟨rfl,J,L,H⟩
   ·simp only[h1,aE,aB,Aa,Nq,Nt,bI]
    exact .ret ⟨rfl,J,L,H⟩
  ·simp only[h0,aA,Aa,Nq,Nt,gE,aY]
   exact .ret ⟨rfl,J,L,H⟩
 ·simp only[he,aE,aB,Aa,bI]
  exact .ret ⟨rfl,(M.ext hb C).less fun i (hi:F i)=>Or.inl hi,C.kf,t⟩
theorem Mi.Wf.put(w:S.Wf)(e:En)(An Bv Au seq:Int):(S.put e An Bv Au seq).1.Wf:=by
 unfold Mi.put;split
 ·exact w
 ·exact { toWp:=⟨w.sm,w.ps⟩,op:=w.op }
noncomputable def Mi.both(S:Mi)(e:En)(Au seq:Int):Mi × Int × Int:=
 if ¬(S.put e S.a S.b Au seq).2=0 then((S.put e S.a S.b Au seq).1,S.a,(S.put e S.a S.b Au seq).2)else
 (((S.put e S.a S.b Au seq).1.put e S.b S.a Au seq).1,S.b,((S.put e S.a S.b Au seq).1.put e S.b S.a Au seq).2)
theorem Bk8(A:By disp)(hK:10000<K)(hd:17<=d)(M:Dd h m S F)(hb:HB h){e:En}(w:e.Wf)(Au seq:Int):
 Ok (Ag TT disp K d false 233 [.ptr m 0,.agg e.cells,I Au,I seq] h) fun v h'=>v=.tuple [I (S.both e Au seq).2.1,I (S.both e Au seq).2.2]/\Dd h' m (S.both e Au seq).1 F/\Kf F h h'/\HB h':=by
 obtain⟨dd,rfl⟩:∃k,d=k+1:=⟨d-1,by omega⟩;rw[Al0 A (by omega)];have el:=En.Ba w;simp only[Afy,Aa];obtain⟨U,L,B,u,W⟩:=nW h (.cells e.cells 203);rw[L];have f:=B.hb hb;have H:=M.ext hb B;obtain⟨_,D,p,bl,ql,np,q,c,G,a⟩:=H.s;rw[a.Hi.oa]
 try simp only[Aa]
 rw[a.Hi.ob,Cz u rfl,Aj el]
 try simp only[Aa]
 refine(Bfb A hK (by omega) H f w S.a S.b Au seq).Am ?_;rintro _ h2 ⟨rfl,M2,J,o⟩;have t:Kf F h h2:=B.Auj J;have u:=J.at f u (.inr ⟨aD _,by omega⟩);unfold Mi.both;simp only[I,Ac];by_cases h0:(S.put e S.a S.b Au seq).2=0
 ·simp only[h0,aC,aA,Aa,aY,Zv]
  rw[Cz u rfl,Aj el]
  try simp only[Aa]
  have M2:=M2.less fun i (C:F i)=>Or.inl C
  refine(Bfb A hK (by omega) M2 o w S.b S.a Au seq).Am ?_;rintro _ X ⟨rfl,O,T,E⟩;exact .ret ⟨rfl,O,t.trans T,E⟩
 ·simp only[h0,aE,aB,Aa,bI]
  exact .ret ⟨rfl,M2.less fun i (C:F i)=>Or.inl C,t,o⟩
theorem Mi.Wf.both(w:S.Wf)(e:En)(Au seq:Int):(S.both e Au seq).1.Wf:=by
 unfold Mi.both;split
 ·exact w.put ..
 ·exact(w.put ..).put ..
theorem Bjy(D:Nat)(g:Gm)(p bl n:Nat)(a b u f:Int):(Acl D g p bl n a b u).set 267 (I f)=Acl D g p bl n a b f:=by
 unfold Acl;have k:([EV.ptr D 0]++gL g++Be).length=263:=by rw[aG,P7];rfl
 rw[eK _ _ (by omega),k];rfl
noncomputable def Mi.Axh(S:Mi):Mi:={ S with u:=Cx .i64 (S.u+1) }
theorem Mi.Wf.Axh(w:S.Wf):S.Axh.Wf:={ toWp:=⟨w.sm,w.ps⟩,op:=w.op }
theorem A45(M:Dd h m S F)(hb:HB h){kk:Ab->R}(o:∀h',Dd h' m S.Axh F->Kf F h h'->HB h'->Ext h h'\/True->h'.next=h.next->(∀i,F i->h'.get i=h.get i)->Ok (kk h') Q):
 Ok (Fw (.ptr m 267) h fun v=>J1 A3p (bin TT .add 3) v (.int .i64 1) fun w=>stE 1 (.ptr m 267) w h kk) Q:=by
 obtain⟨lt,D,p,bl,ql,np,q,c,G,a⟩:=M.s;rw[a.Hi.ou];simp only[I,Ac];have ml:=A2a D S.g p bl (S.g.D*S.g.Z).toNat S.a S.b S.u;have lm:=hb _ _ a.Hi.Hi;refine Ok.st1 a.Hi.Hi rfl rfl (by omega) ?_;rw[show EV.int .i64 (Cx .i64 (S.u+1))=I (Cx .i64 (S.u+1))from rfl,Bjy];have c1:As (fun i=>i=m) h (h.put m (.cells (Acl D S.g p bl (S.g.D*S.g.Z).toNat S.a S.b (Cx .i64 (S.u+1))) 132)):=(As.refl (S:=fun i=>i=m) h).Ao (.inl rfl) lm _;have t:=a.A6t hb (Af _ _ _) c1;have k:∀i,F i->i≠m:=fun i f y=>by subst y;exact a.sub.2.1.2 f
 refine o _ ⟨⟨fun i f=>f.1,D,p,bl,ql,np,q,c,G,?_⟩,fun i f=>M.lt i f,M.wf.Axh⟩ (c1.mono fun i f y=>k i y f) (hb.put lm _) (.inr trivial) rfl (fun i f=>Ae _ (cT (k i f)));exact t
noncomputable def Mi.Lj(B:Mi × Int × Int):Mi:=if B.2.1=B.1.b then B.1.Axh else B.1
def Me.zero:Me:=⟨0,0,0,0,0,0⟩
noncomputable def Mi.Rj(e:En)(Au seq:Int):Nat->Mi->Mi × Me × Int
 | 0,S=>(S,Me.zero,0)
 | n+1,S=>
  if ¬S.ready.2=0 then(S.ready.1,Me.zero,S.ready.2)else
  if(S.ready.1.both e Au seq).2.2=0 then((S.ready.1.both e Au seq).1.Axh,⟨1,(S.ready.1.both e Au seq).1.a,(S.ready.1.both e Au seq).1.b,(S.ready.1.both e Au seq).1.u,seq,F2 e.bytes⟩,0)else
  if(S.ready.1.both e Au seq).2.2=34 then((S.ready.1.both e Au seq).1,Me.zero,34)else
  if((Mi.Lj (S.ready.1.both e Au seq)).Bx (S.ready.1.both e Au seq).2.1).2=34 then(((Mi.Lj (S.ready.1.both e Au seq)).Bx (S.ready.1.both e Au seq).2.1).1,Me.zero,34)else
  Rj e Au seq n ((Mi.Lj (S.ready.1.both e Au seq)).Bx (S.ready.1.both e Au seq).2.1).1
noncomputable def Mi.place(S:Mi)(e:En)(Au seq:Int):Mi × Me × Int:=
 if ¬(Jl e 0 0 Au seq).2=0 then(S,Me.zero,(Jl e 0 0 Au seq).2)else Mi.Rj e Au seq 1000 S
noncomputable def Anj(bad:Nat->Int)(n:Nat):Nat:=((List.range n).filter fun i=>¬bad i=1).length
theorem Bb2(bad:Nat->Int)(n:Nat):Anj bad n<=n:=by
 unfold Anj;have:=eJ (fun i=>decide (¬bad i=1)) (List.range n);simpa using this
theorem Bdc(bad:Nat->Int){z:Nat}(k:z<n)(hb:¬bad z=1):Anj (fun i=>if i=z then 1 else bad i) n<Anj bad n:=by
 unfold Anj;induction n with
 | zero=>omega
 | succ n a=>
  rw[dJ,eI,eI,aG,aG];by_cases h:z=n
  ·subst h
   have e1:((List.range z).filter fun i=>decide (¬(if i=z then(1:Int)else bad i)=1))=(List.range z).filter fun i=>decide (¬bad i=1):=by
    refine List.filter_congr fun i f=>?_
    have:=eU.1 f;rw[aM (by omega)]
   have e2:([z].filter fun i=>decide (¬(if i=z then(1:Int)else bad i)=1)) = []:=by simp
   have e3:([z].filter fun i=>decide (¬bad i=1)) = [z]:=by simp[hb]
   rw[e1,e2,e3];simp
  ·have:=a (by omega)
   have e2:([n].filter fun i=>decide (¬(if i=z then(1:Int)else bad i)=1)) = [n].filter fun i=>decide (¬bad i=1):=by
    have:¬n=z:=fun y=>h y.symm
    rw[fK,fK];simp[this]
   rw[e2];omega
theorem Bgu(S:Mi):S.ready.1.g=S.g/\S.ready.1.bad=S.bad:=by
 unfold Mi.ready;split
 ·exact⟨rfl,rfl⟩
 ·split
  ·exact⟨rfl,rfl⟩
  ·split<;>exact⟨rfl,rfl⟩
theorem Bnp(S:Mi)(e:En)(An Bv Au seq:Int):(S.put e An Bv Au seq).1.g=S.g/\(S.put e An Bv Au seq).1.bad=S.bad/\(S.put e An Bv Au seq).1.a=S.a/\(S.put e An Bv Au seq).1.b=S.b/\(S.put e An Bv Au seq).1.u=S.u/\(S.put e An Bv Au seq).1.ps=S.ps:=by
 unfold Mi.put;split<;>exact⟨rfl,rfl,rfl,rfl,rfl,rfl⟩
theorem Bsm(S:Mi)(e:En)(Au seq:Int):(S.both e Au seq).1.g=S.g/\(S.both e Au seq).1.bad=S.bad/\(S.both e Au seq).1.a=S.a/\(S.both e Au seq).1.b=S.b/\(S.both e Au seq).1.u=S.u/\(S.both e Au seq).1.ps=S.ps /\
 ((S.both e Au seq).2.1=S.a\/(S.both e Au seq).2.1=S.b):=by
 unfold Mi.both;obtain⟨f,k,a3,a4,o,q⟩:=Bnp S e S.a S.b Au seq;obtain⟨b1,b2,b3,b4,t,v⟩:=Bnp (S.put e S.a S.b Au seq).1 e S.b S.a Au seq;split
 ·exact⟨f,k,a3,a4,o,q,.inl rfl⟩
 ·exact⟨b1.trans f,b2.trans k,b3.trans a3,b4.trans a4,t.trans o,v.trans q,.inr rfl⟩
theorem Bpp(B:Mi × Int × Int):(Mi.Lj B).g=B.1.g/\(Mi.Lj B).bad=B.1.bad/\(Mi.Lj B).a=B.1.a/\(Mi.Lj B).b=B.1.b:=by
 unfold Mi.Lj;split<;>exact⟨rfl,rfl,rfl,rfl⟩
theorem A7y(S:Mi)(z:Int):(S.Bx z).1.g=S.g:=by
 unfold Mi.Bx;split
 ·rfl
 ·split
  ·rfl
  ·split
   ·rfl
   ·exact(A7e _).1
theorem Anr(w:S.Wf){z:Int}(f:0<=Ex S.g z)(hb:¬S.bad z.toNat=1):Anj (S.Bx z).1.bad (S.g.D*S.g.Z).toNat<Anj S.bad (S.g.D*S.g.Z).toNat:=by
 have a:(S.Bx z).1.bad=fun i=>if i=z.toNat then 1 else S.bad i:=by
  unfold Mi.Bx;rw[aM (by omega),aM (by unfold Mi.Jt;rw[aI hb,eD];simp)];split
  ·rfl
  ·exact(A7e _).2.2.2.2
 rw[a];refine Bdc S.bad ?_ hb;rcases Afi w.sm z with y|⟨_,_,_,k,o⟩<;>omega
theorem Be2(w:S.Wf)(h:S.ready.2=0):(0<=Ex S.ready.1.g S.ready.1.a/\¬S.ready.1.bad S.ready.1.a.toNat=1)/\(0<=Ex S.ready.1.g S.ready.1.b/\¬S.ready.1.bad S.ready.1.b.toNat=1):=by
 rcases w.ready.op with⟨y,_⟩|y
 ·exfalso
  revert h y;unfold Mi.ready;split
  ·rename_i h0;intro _ y;exact h0.1 y
  ·split
   ·rename_i k;intro y _;exact k y
   ·cases o:Au9 S.ps S.g.D.toNat with
    | none=>intro y _;simp at y
    | some t=>
     obtain⟨x,y,q⟩:=t;obtain⟨a,b,_,_,_,_,_,_,_,_,u,_⟩:=A5f w.ps o;intro _ f;have f:x = -1:=f;have:=Avr w.sm (z:=x) (by rw[u.1];omega);omega
 ·exact y
theorem A4h:TT.size 53=some 6/\TT.agg 53=some true:=⟨by kernel_rfl,by kernel_rfl⟩
theorem Bc7(A:By disp)(hK:10000<K)(hd:19<=d){e:En}(w:e.Wf)(Au seq:Int){X t:Nat}:∀(n f:Nat) (h:Ab) (S:Mi) (F:Nat->Prop),Anj S.bad (S.g.D*S.g.Z).toNat<n->n<=f->Dd h m S F->HB h->F X->F t->X≠t ->
 h.get X=some (.cells e.cells 203)->h.get t=some (.cells Me.zero.cells 53) ->
 Ok (Fy (Ag TT disp K d false) (Ag TT disp K d true) K f (.ptr m 0) (I Au) (I seq) (.ptr X 0) (.ptr t 0) h) fun v h'=>v=.tuple [.agg (Mi.Rj e Au seq n S).2.1.cells,I (Mi.Rj e Au seq n S).2.2]/\Dd h' m (Mi.Rj e Au seq n S).1 (fun i=>F i/\¬i=t)/\Kf (fun i=>F i/\¬i=t) h h'/\HB h':=by
 intro n;induction n with
 | zero=>intro f h S F hg;omega
 | succ n ih=>
  intro f h S F hg hf M hb f5 f8 ay g5 g8;obtain⟨f,rfl⟩:∃k,f=k+1:=⟨f-1,by omega⟩;have el:=En.Ba w;have sub:∀i,(F i/\¬i=t)->F i:=fun i hi=>hi.1
  have fin:∀(me:Me) (o:Int) (H:Ab) (S5:Mi),Dd H m S5 F->Kf F h H->HB H->(S5,me,o)=Mi.Rj e Au seq (n+1) S ->
   Ok (stE 6 (.ptr t 0) (.agg me.cells) H fun h=>Ij TT [.c (.ptr t 0) 53,.v (I o)] h) fun v h'=>v=.tuple [.agg (Mi.Rj e Au seq (n+1) S).2.1.cells,I (Mi.Rj e Au seq (n+1) S).2.2]/\Dd h' m (Mi.Rj e Au seq (n+1) S).1 (fun i=>F i/\¬i=t)/\Kf (fun i=>F i/\¬i=t) h h'/\HB h':=by
   intro me o H S5 M5 k5 E he;have ai:=k5.at hb g8 f8;have l8:=E _ _ ai;refine Ok.st me.cells ai rfl rfl (Bl rfl) ?_;rw[Ea (Af _ _ _) A4h.1 A4h.2 rfl,<-he];have c8:As (fun i=>i=t) H (H.put t (.cells me.cells 53)):=(As.refl (S:=fun i=>i=t) H).Ao (.inl rfl) l8 _;exact .ret ⟨rfl,(M5.Afg c8 fun i hi _=>hi▸f8).less sub,(k5.less sub).trans (c8.mono fun i hi y=>y.2 hi),E.put l8 _⟩
  unfold Mi.Rj at fin⊢;simp only[Fy,dr];refine(Bi0 A hK M hb (by omega)).Am ?_;rintro _ h1 ⟨rfl,M1,k1,aj⟩;simp only[I,Ac];by_cases hr:S.ready.2=0
  ·rw[aM (show ¬¬S.ready.2=0 from fun y=>y hr)]at fin⊢
   have op:=Be2 M.wf hr;have ao:=(Bgu S);simp only[hr,aC,aA,Aa,Xl];have a2:=k1.at hb g5 f5;rw[Cz a2 rfl,Aj el]
   try simp only[Aa]
   refine(Bk8 A hK (by omega) M1 aj w Au seq).Am ?_;rintro _ h2 ⟨rfl,M2,k2,C⟩;have J:Kf F h h2:=k1.trans k2;have L:=Bsm S.ready.1 e Au seq;generalize hB:S.ready.1.both e Au seq=B at M2 fin L⊢;obtain⟨T,z,o⟩:=B;simp only at M2 fin L⊢;have cc:z≠z->False:=fun y=>y rfl
   simp only[Aa,I,Ac];by_cases h0:o=0
   ·rw[aQ h0]at fin⊢
    simp only[h0,aB,Aa,Ar];obtain⟨a5,D,p,bl,ql,np,q,c,G,a⟩:=M2.s;have lm:=C _ _ a.Hi.Hi;have a6:=J.at hb g5 f5;rw[G2 lm,a.Hi.oa]
    try simp only[Aa,Ar]
    rw[G2 lm,a.Hi.ob]
    try simp only[Aa,Ar]
    rw[G2 lm,a.Hi.ou]
    try simp only[Aa,Ar]
    rw[G2 lm,a.Hi.table]
    try simp only[Aa,Ar]
    rw[show ∀k:EV->R,N1 32 1 (.ptr X 6) none none none k=k (.slice X 6 32 32 false)from fun k=>rfl]
    try simp only[Aa,Ar]
    have bs:Bs h2.lift (.slice X 6 32 32 false) X 6 e.bytes:=by
     refine⟨32,false,_,e.cells,by rw[w.len],by rw[w.len];omega,by rw[Br];exact a6,rfl,by rw[el,w.len];exact aD _,?_⟩;unfold En.cells;rw[w.len];show(Bj e.bytes).take 32=_;rw[bR (by rw[Bg,w.len];omega)]
    refine Ok.bE (A7n (K:=K) hK bs (Db C) w.u8 (by rw[w.len];omega)) (fun _ _ p=>p.2) ?_;rintro _ cf W ⟨rfl,_⟩ _ x3;have O:=x3.hb C;have ch:=Bcb w.u8;simp only[Nk,Aa];rw[show Cx .i64 (Int.ofNat (F2 e.bytes))=(F2 e.bytes:Int)from Ci (by show -9223372036854775808<=((F2 e.bytes:Nat):Int);omega) (by show((F2 e.bytes:Nat):Int)<=_;omega)];rw[Aw (l:=(⟨1,T.a,T.b,T.u,seq,F2 e.bytes⟩:Me).cells) rfl]
    try simp only[Aa,Ar]
    rw[Gt];refine Ok.st (⟨1,T.a,T.b,T.u,seq,F2 e.bytes⟩:Me).cells (Ad _ _) rfl rfl (Bl rfl) ?_;obtain⟨h4,e_,x4,a8,n4⟩:=nP W (.cells [EV.int .i64 0,.int .i64 0,.int .i64 0,.int .i64 0,.int .i64 0,.int .i64 0] 53) (.cells (⟨1,T.a,T.b,T.u,seq,F2 e.bytes⟩:Me).cells 53);rw[e_];have Y:=x4.hb O;have aq:Ext h2 h4:=x3.trans x4;have M4:=M2.ext C aq;refine A45 M4 Y ?_;intro H M5 k5 E _ n5 e5;have bb:Bi F h2 h4 W.next:=.inr ⟨x3.next,by omega⟩
    rw[Cz (by rw[e5 _ bb];exact a8) rfl,Aj (n:=6) rfl]
    try simp only[Aa]
    refine fin _ _ H T.Axh (M5.less fun i (hi:F i)=>Or.inl hi) (J.trans (aq.Auj k5)) E rfl
   ·rw[aM h0]at fin⊢
    simp only[h0,aA,Aa,Ac];by_cases aa:o=34
    ·rw[aQ aa]at fin⊢
     simp only[aa,aB,Aa];rw[Aw (l:=Me.zero.cells) rfl];exact fin _ _ h2 T M2 J C rfl
    ·rw[aM aa]at fin⊢
     simp only[aa,aA,Aa,X7];obtain⟨a5,D,p,bl,ql,np,q,c,G,a⟩:=M2.s;rw[a.Hi.ob];simp only[I,Ac];have hz:0<=Ex T.g z/\¬T.bad z.toNat=1:=by
      obtain⟨e1,e2,e3,e4,_,_,e5⟩:=L;rw[e1,e2];rcases e5 with e5|e5
      ·rw[e5];exact op.1
      ·rw[e5];exact op.2
     have go:∀(W:Ab),Dd W m (Mi.Lj (T,z,o)) F->Kf F h W->HB W ->
      Ok (Ql (Ag TT disp K d false) (Ag TT disp K d true) K (Fy (Ag TT disp K d false) (Ag TT disp K d true) K f) (.ptr m 0) (I Au) (I seq) (.ptr X 0) (.ptr t 0) (I z) W) fun v h'=>
       v=.tuple [.agg (if((Mi.Lj (T,z,o)).Bx z).2=34 then(((Mi.Lj (T,z,o)).Bx z).1,Me.zero,(34:Int))else Mi.Rj e Au seq n ((Mi.Lj (T,z,o)).Bx z).1).2.1.cells,I (if((Mi.Lj (T,z,o)).Bx z).2=34 then(((Mi.Lj (T,z,o)).Bx z).1,Me.zero,(34:Int))else Mi.Rj e Au seq n ((Mi.Lj (T,z,o)).Bx z).1).2.2] /\
        Dd h' m (if((Mi.Lj (T,z,o)).Bx z).2=34 then(((Mi.Lj (T,z,o)).Bx z).1,Me.zero,(34:Int))else Mi.Rj e Au seq n ((Mi.Lj (T,z,o)).Bx z).1).1 (fun i=>F i/\¬i=t)/\Kf (fun i=>F i/\¬i=t) h h'/\HB h':=by
      intro W M3 k3 O;obtain⟨u1,u2,u3,u4⟩:=Bpp (T,z,o);simp only at u1 u2 u3 u4;have ae:0<=Ex (Mi.Lj (T,z,o)).g z/\¬(Mi.Lj (T,z,o)).bad z.toNat=1:=by rw[u1,u2];exact hz
      have less:=Anr M3.wf ae.1 ae.2;have qg:=A7y (Mi.Lj (T,z,o)) z;simp only[Ql,dr];refine(Ya A hK M3 O (by omega) (Ale M3.wf.sm ae.1)).Am ?_;rintro _ h4 ⟨rfl,M4,k4,Y⟩;have ab:Kf F h h4:=k3.trans k4;simp only[I,Ac];by_cases hq:((Mi.Lj (T,z,o)).Bx z).2=34
      ·rw[aQ hq]at fin⊢
       simp only[hq,aB,Aa];rw[Aw (l:=Me.zero.cells) rfl];exact fin _ _ h4 _ M4 ab Y rfl
      ·rw[aM hq]
       simp only[hq,aA,Aa];have bo:=ab.at hb g5 f5;have bp:=ab.at hb g8 f8;refine(ih f h4 _ F ?_ (by omega) M4 Y f5 f8 ay bo bp).mono ?_
       ·rw[qg]
        have e1:(Mi.Lj (T,z,o)).g=S.g:=by rw[u1,L.1,ao.1]
        have e2:(Mi.Lj (T,z,o)).bad=S.bad:=by rw[u2,L.2.1,ao.2]
        rw[e1,e2]at less;rw[e1];omega
       ·rintro v H ⟨ev,M5,k5,E⟩
        exact⟨ev,M5,(ab.less sub).trans k5,E⟩
     by_cases U:z=T.b
     ·simp only[U,aB,Aa]
      refine A45 M2 C ?_;intro W M3 k3 O _ _ _;have:=go W (by unfold Mi.Lj;rw[aQ U];exact M3) (J.trans k3) O;rw[U]at this;exact this
     ·simp only[U,aA,Aa]
      exact go h2 (by unfold Mi.Lj;rw[aM U];exact M2) J C
  ·rw[aQ hr]at fin⊢
   simp only[hr,aE,aB,Aa];rw[Aw (l:=Me.zero.cells) rfl];exact fin _ _ h1 _ M1 k1 aj rfl
theorem Bkd(A:By disp)(hK:10000<K)(hd:20<=d)(M:Dd h m S F)(hb:HB h){e:En}(w:e.Wf)(Au seq:Int):
 Ok (Ag TT disp K d false 185 [.ptr m 0,.agg e.cells,I Au,I seq] h) fun v h'=>v=.tuple [.agg (S.place e Au seq).2.1.cells,I (S.place e Au seq).2.2]/\Dd h' m (S.place e Au seq).1 F/\Kf F h h'/\HB h':=by
 obtain⟨dd,rfl⟩:∃k,d=k+1:=⟨d-1,by omega⟩;rw[Alm A (by omega)];have el:=En.Ba w;simp only[Ad0,Aa];rw[show(h.new (.cells e.cells 203)).next=h.next+1 from rfl];have L:Ext h ((h.new (.cells e.cells 203)).new (.cells Me.zero.cells 53)):=(As.new _ _).Da _;have H:((h.new (.cells e.cells 203)).new (.cells Me.zero.cells 53)).get h.next=some (.cells e.cells 203):=by
  rw[Az _ (aR _)];exact Ad _ _
 have E:((h.new (.cells e.cells 203)).new (.cells Me.zero.cells 53)).get (h.next+1)=some (.cells Me.zero.cells 53):=Ad _ _;have n1:((h.new (.cells e.cells 203)).new (.cells Me.zero.cells 53)).next=h.next+2:=rfl
 rw[show(Ca.cells [EV.int .i64 0,.int .i64 0,.int .i64 0,.int .i64 0,.int .i64 0,.int .i64 0] 53)=.cells Me.zero.cells 53 from rfl];generalize (h.new (.cells e.cells 203)).new (.cells Me.zero.cells 53)=X at L H E n1⊢;have o:=L.hb hb;rw[Cz H rfl,Aj el]
 try simp only[Aa]
 refine(Afo (K:=K) w o hK 0 0 Au seq).Am ?_;rintro _ h2 ⟨rfl,O⟩;have T:=O.hb o;have Y:=A47 w 0 0 Au seq;unfold Mi.place;generalize Jl e 0 0 Au seq=fe at Y⊢;obtain⟨f,er⟩:=fe;have fl:=Fr.Ba Y;have zl:=Fr.Ba Fr.Gp;simp only[Aa,Au1];refine Ok.st f.cells (Ad _ _) rfl (by show Fl f.cells=49;rw[Bf,fl]) (Bl (by rw[zl];exact fl.symm)) ?_;obtain⟨q,e_,U,_,_⟩:=nP h2 (.cells Fr.zero.cells 247) (.cells f.cells 247);rw[e_];have t:=U.hb T;have u:Ext h q:=(L.trans O).trans U;have C:Ext X q:=O.trans U;have M3:=M.ext hb u;have H:=C.at o H;have E:=C.at o E;have ln:h.next+2<=q.next:=by have:=C.next;omega
 simp only[I,Ac];by_cases he:er=0
 ·subst he
  simp only[aC,aA,Aa,aY,Xo];have gl:=Bb2 S.bad (S.g.D*S.g.Z).toNat;have:(S.g.D*S.g.Z).toNat<=512:=by
   have X:=M.wf.sm.d1;have h2:=M.wf.sm.z1;have q:=M.wf.sm.d0;have h4:=M.wf.sm.z0;obtain⟨m0,m1⟩:=Oi (a:=S.g.D) (b:=S.g.Z) (A:=8) (B:=64) (by omega) (by omega) (by omega) (by omega);omega
  refine(Bc7 A hK (by omega) w Au seq 1000 K q S (Bi F h q) (by omega) (by omega) M3 t (.inr ⟨by omega,by omega⟩) (.inr ⟨by omega,by omega⟩) (by omega) H E).mono ?_;rintro v h4 ⟨ev,M4,k4,W⟩;refine⟨ev,M4.less fun i (J:F i)=>⟨.inl J,fun y=>by have:=M.lt i J;omega⟩,?_,W⟩;exact As.then (S:=fun i=>¬F i) (Ext.to u) k4 fun i y hl z=>y ⟨.inl z,fun y=>by have:=M.lt i z;omega⟩
 ·simp only[he,aE,aB,Aa,bI]
  rw[Aw (l:=Me.zero.cells) rfl];refine Ok.st Me.zero.cells E rfl rfl (Bl rfl) ?_;rw[Ea (Af _ _ _) A4h.1 A4h.2 rfl];have l8:=t _ _ E;have x4:Ext h (q.put (h.next+1) (.cells Me.zero.cells 53)):=u.Ao (.inr (by omega)) l8 _;exact .ret ⟨rfl,(M.ext hb x4).less fun i (J:F i)=>Or.inl J,x4.kf,t.put l8 _⟩
end Go.Ev
