import Derived.Test.YtokpnommcenoaaaGreatZa
import Derived.Test.YtokpnommcenoaaaGreatXb
set_option linter.all false
namespace Go.Ev
open Go.Proofs
set_option maxRecDepth 100000
variable {p x y:List EV}{D K V b d i j m n:Nat}{h h':Ab}{e:Lg}{Z:Zn}{F G F':Nat->Prop}{ms:List (EV × EV)}{S:Mi}{ev:List Lg}{Q:EV->Ab->Prop}{g:Gm}{ps:Nat->List Int}{P:Int->Prop}{disp:Nat->Option FT}
theorem Awn(a:x.length=64)(f:y.length=64):(Yy x y).length=64:=by unfold Yy;rw[List.length_zipWith,a,f];rfl
theorem U8.at(u:U8 x)(f:i<x.length):∃a:Nat,a<256/\x[i]=.int .u8 (Int.ofNat a):=by
 obtain⟨l,k,rfl⟩:=u;rw[Bg]at f;exact⟨l[i],k _ (av _),by simp[Bk]⟩
theorem U8.xor(f:U8 x)(k:U8 y):U8 (Yy x y):=by
 obtain⟨a,o,rfl⟩:=f;obtain⟨b,hb,rfl⟩:=k;refine⟨List.zipWith Nat.xor a b,fun c q=>?_,?_⟩
 ·obtain⟨i,t,rfl⟩:=List.getElem_of_mem q
  rw[List.getElem_zipWith];rw[List.length_zipWith]at t;exact dZ (n:=8) (o _ (av _)) (hb _ (av _))
 ·unfold Yy Bk
  rw[List.zipWith_map,List.map_zipWith];rfl
theorem Bn5 {h0:Ab}{b2 b3 b4:Nat}(T:x.length=64)(U:y.length=64)(W:U8 x)(X:U8 y)(Y:h0.next<=b2)(l3:b2<b3)(l4:b3<b4):∀(m i:Nat) (h:Ab) (l:List EV),64-i<m->i<=64->HB h->Ext h0 h ->
 h.get b2=some (.cells l 30)->l.length=64->(∀j,j<64->l[j]? = if j<i then(Yy x y)[j]? else x[j]?)->h.get b3=some (.cells y 30)->h.get b4=some (.cells Va 30) ->
 Ok (Km K m (.ptr b2 0) (.ptr b3 0) (.ptr b4 0) (.int .i64 (i:Int)) h) fun v h'=>v=.agg (Yy x y)/\Ext h0 h'/\HB h':=by
 intro m;induction m with
 | zero=>intro i h l hm;omega
 | succ m ih=>
  intro i h l hm hi hb c B k hj C E;have f:=hb _ _ B;have H:=hb _ _ C;have o:=hb _ _ E;simp only[Km,Ac];by_cases q:i<64
  ·rw[aJ (show(i:Int)<64 by omega)]
   obtain⟨a,ha,O⟩:=W.at (i:=i) (by omega);obtain⟨b,J,eb⟩:=X.at (i:=i) (by omega);have e2:l[i]? = some (.int .u8 (Int.ofNat a)):=by rw[hj i q,aM (bS _),aH (by omega),O]
   have e3:y[i]? = some (.int .u8 (Int.ofNat b)):=by rw[aH (by omega),eb]
   have ex:(Yy x y)[i]? = some (Nk .u8 (a ^^^ b)):=by
    unfold Yy;rw[List.getElem?_zipWith,aH (show i<x.length by omega),O,e3];rfl
   simp only[Aa,Aec,Vo q,bF,bk];rw[Gy f,Ah B rfl e2,Gy H,Ah C rfl e3,Blo ha J,Gh];refine Ok.st1 B rfl rfl (by omega) ?_;simp only[Adq,Ac];rw[Cg];refine ih (i+1) _ (l.set i (Nk .u8 (a ^^^ b))) (by omega) (by omega) (hb.put f _) (c.Ao (.inr Y) f _) (Ae _ _ _) (by rw[bV];exact k) (fun j L=>?_) ?_ ?_
   ·rw[List.getElem?_set]
    by_cases t:i=j
    ·subst t;rw[aQ rfl,aQ (by omega),aQ (by omega),ex]
    ·rw[aM t,hj j L]
     by_cases u:j<i
     ·rw[aQ u,aQ (by omega)]
     ·rw[aM u,aM (by omega)]
   ·rw[Af _];exact C
   ·rw[Af _];exact E
  ·have:i=64:=by omega
   subst this;have el:l=Yy x y:=by
    refine eE fun j=>?_
    by_cases u:j<64
    ·rw[hj j u,aQ u]
    ·rw[cF (by omega),cF (by rw[Awn T U];omega)]
   subst el;simp only[show ¬((64:Nat):Int)<64 by omega,aA,Aa,Ad3];rw[Cy B rfl,Ak k];simp only[Aa];refine Ok.st (Yy x y) E rfl (by show Fl (Yy x y)=64;rw[Bf,k]) (Bm (by rw[Kw];exact k.symm)) ?_;rw[Qo (Ae _ _ _) Azn.1 Azn.2 k];exact .ret ⟨rfl,c.Ao (.inr (by omega)) o _,hb.put o _⟩
theorem Bl1(a:x.length=64)(k:y.length=64)(o:U8 x)(q:U8 y)(hb:HB h)(hK:100<K):
 Ok (O3 K (.agg x) (.agg y) h) fun v h'=>v=.agg (Yy x y)/\Ext h h'/\HB h':=by
 simp only[O3,Aa];have f:Ext h (((h.new (.cells x 30)).new (.cells y 30)).new (.cells (List.replicate 64 (.int .u8 0)) 30)):=((Au.new _ _).C8 _).C8 _;refine Bn5 (h0:=h) (x:=x) (y:=y) a k o q (b2:=h.next) (b3:=h.next+1) (b4:=h.next+2) (aD _) (by omega) (by omega) K 0 _ x (by omega) (by omega) (f.hb hb) f ?_ a (fun j _=>by rw[aM (cn _)]) ?_ (Ad _ _)
 ·rw[Ay _ (by show h.next<h.next+1+1;omega),Ay _ (by show h.next<h.next+1;omega)];exact Ad _ _
 ·rw[Ay _ (by show h.next+1<h.next+1+1;omega)];exact Ad _ _
theorem Bhn(A:Bw disp){e:Nat}(he:2<=e)(H:h.get b=some (.cells p 30))(t:x.length=64)(u:p.length=64)(J:U8 x)(up:U8 p)(hb:HB h)(hK:100<K):
 Ok (Rf (Ag TT disp K e false) (Ag TT disp K e true) (.func 307 [] [.ptr b 0]) [.agg x] h) fun v h'=>v=.agg (Yy x p)/\Ext h h'/\HB h':=by
 obtain⟨d,rfl⟩:∃k,e=k+1:=⟨e-1,by omega⟩;show Ok (Ag TT disp K (d+1) false 307 [.agg x,.ptr b 0] h) _;rw[Akz A (by omega)];simp only[Adm,Aa];have q:Ext h ((h.new (.cells x 30)).new (.cells (List.replicate 64 (.int .u8 0)) 30)):=(Au.new _ _).C8 _;have C:((h.new (.cells x 30)).new (.cells (List.replicate 64 (.int .u8 0)) 30)).get h.next=some (.cells x 30):=by
  rw[Ay _ (by show h.next<h.next+1;omega)];exact Ad _ _
 have f:((h.new (.cells x 30)).new (.cells (List.replicate 64 (.int .u8 0)) 30)).get (h.next+1)=some (.cells Va 30):=Ad _ _;rw[show(h.new (.cells x 30)).next=h.next+1 from rfl];generalize (h.new (.cells x 30)).new (.cells (List.replicate 64 (.int .u8 0)) 30)=O at q C f⊢;have o:=q.hb hb;have L:=q.at hb H;rw[Cy C rfl,Ak t];simp only[Aa];rw[Cy L rfl,Ak u];simp only[Aa];refine(Bl1 (K:=K) t u J up o hK).Am ?_;rintro _ h2 ⟨rfl,E,a⟩;have f:=E.at o f;have B:=Awn t u;refine Ok.st (Yy x p) f rfl (by show Fl (Yy x p)=64;rw[Bf,B]) (Bm (by rw[Kw];exact B.symm)) ?_;rw[Qo (Ae _ _ _) Azn.1 Azn.2 B];exact .ret ⟨rfl,(q.trans E).Ao (.inr (by omega)) (a _ _ f) _,a.put (a _ _ f) _⟩
theorem Av3:∀(l vs:List EV),vs.length<=l.length->Jf l vs=some (vs++l.drop vs.length)
 | l,[],_=>by cases l<;>rfl
 | [],_::_,h=>by simp at h
 | a::l,v::vs,h=>by
  show(match Jf l vs with|some x=>some (v::x)|none=>none)=_;rw[Av3 l vs (by simpa using h)];rfl
theorem Awl:∀(l:List EV) (off:Nat) (vs:List EV),off+vs.length<=l.length->Fm l off vs=some (l.take off++vs++l.drop (off+vs.length))
 | [],off,vs,h=>by
  have h0:off=0/\vs = []:=by simp at h;exact⟨h.1,h.2⟩
  obtain⟨rfl,rfl⟩:=h0;rfl
 | a::l,0,vs,h=>by
  show Jf (a::l) vs=_;rw[Av3 _ _ (by omega)];simp
 | a::l,off+1,vs,h=>by
  show(match Fm l off vs with|some x=>some (a::x)|none=>none)=_;rw[Awl l off vs (by simp at h;omega)];simp only[fN,List.cons_append];rw[show off+1+vs.length=(off+vs.length)+1 by omega,List.drop_succ_cons]
theorem Amn {l vs:List EV}{off:Nat}(h:off+vs.length<=l.length):Mh l off vs=some (l.take off++vs++l.drop (off+vs.length)):=by rw[U6,Awl _ _ _ h]
theorem Afa:∀(l:List (List EV)),(∀x∈l,x.length=n)->l.flatten.length=l.length*n
 | [],_=>by simp
 | a::l,hw=>by
  rw[br,aG,Afa l fun x f=>hw x (aT _ f),hw a (aV ..),bK,fO];omega
theorem Avm{l:List (List EV)}(hw:∀x∈l,x.length=n)(hj:j<l.length):l.flatten=(l.take j).flatten++l[j]++(l.drop (j+1)).flatten/\(l.take j).flatten.length=j*n/\l[j].length=n:=by
 refine⟨?_,?_,hw _ (av _)⟩
 ·have:l=l.take j++l[j]::l.drop (j+1):=by rw[<-dI hj,List.take_append_drop]
  conv=>lhs;rw[this]
  rw[cj,br,b9]
 ·rw[Afa (n:=n) _ fun x a=>hw x (bO a),bH,dW (by omega)]
theorem Bij{l:List (List EV)}(hw:∀x∈l,x.length=n)(hj:j<l.length):Mj l.flatten (j*n) n=some l[j]:=by
 obtain⟨e,a,h2⟩:=Avm hw hj;rw[e,E6 (by rw[aG,aG,a,h2];omega),<-a,b9,dG,<-h2,dM]
theorem A41{l:List (List EV)}(hw:∀x∈l,x.length=n)(hj:j<l.length){v:List EV}(f:v.length=n):Mh l.flatten (j*n) v=some (l.set j v).flatten:=by
 obtain⟨e,a,h2⟩:=Avm hw hj;have e2:(l.set j v).flatten=(l.take j).flatten++v++(l.drop (j+1)).flatten:=by
  rw[List.set_eq_take_append_cons_drop,aQ hj,cj,br,b9]
 have k:l.flatten.length=j*n+n+(l.drop (j+1)).flatten.length:=by rw[e,aG,aG,a,h2]
 have t1:l.flatten.take (j*n)=(l.take j).flatten:=by rw[e,b9,<-a,dM]
 have t2:l.flatten.drop (j*n+n)=(l.drop (j+1)).flatten:=by
  rw[show j*n+n=((l.take j).flatten++l[j]).length by rw[aG,a,h2],e,dG]
 rw[Amn (by rw[k,f];omega),f,t1,t2,e2]
def Zn.change(Z:Zn)(off:Int)(p:List EV):Zn:=if 0<=off/\off<Z.l.length then { Z with l:=Z.l.set off.toNat (Yy (((Z.l[off.toNat]?).getD Va)) p) }else Z
theorem Zn.Wf.change{size:Nat}(w:Z.Wf size)(off:Int)(f:U8 p):(Z.change off p).Wf size:=by
 unfold Zn.change;split
 ·refine⟨fun x a=>?_,w.st,by simp only[bV];exact w.safe,by simp only[bV];exact w.len,by simp only[bV];exact w.room⟩
  rcases dH a with a|a
  ·exact w.u8 x a
  ·rw[a]
   refine U8.xor ?_ f;cases k:Z.l[off.toNat]? with
   | none=>exact U8.zs
   | some y=>exact w.u8 _ (dO k)
 ·exact w
theorem A25(A:Bw disp){e:Nat}(he:2<=e){z q size:Nat}(o:E2 h z q size Z)(w:Z.Wf size)(hs:size<=64)(hb:HB h)(off:Int)(U:h.get b=some (.cells p 30))(L:p.length=64)(up:U8 p)(hK:100<K):
 Ok (Jk (Ag TT disp K e false) (Ag TT disp K e true) K (.ptr z 0) (I off) (.func 307 [] [.ptr b 0]) h) fun v h'=>v=I (if 0<=off/\off<Z.l.length then 0 else 31)/\E2 h' z q size (Z.change off p)/\Au (fun j=>Z.l≠[]/\j=q) h h'/\HB h':=by
 obtain⟨s,g,r⟩:=o.An;have O:=hb _ _ g;have no:¬(0<=off/\off<Z.l.length)->Ok (some (I 31,h)) fun v h'=>v=I (if 0<=off/\off<Z.l.length then 0 else 31)/\E2 h' z q size (Z.change off p)/\Au (fun j=>Z.l≠[]/\j=q) h h'/\HB h':=fun T=>by
  unfold Zn.change;rw[aM T,aM T];exact .ret ⟨rfl,o,Au.refl _,hb⟩
 simp only[Jk,I,Ac];by_cases h0:off<0
 ·rw[aJ h0]
  simp only[Aa,Ac,Ff];exact no fun y=>by omega
 ·rw[aK h0]
  simp only[Aa,Ac,Cz g rfl,r.Hc];by_cases J:(Z.l.length:Int)<=off
  ·rw[aJ J]
   simp only[Aa,Ff];exact no fun y=>by omega
  ·rw[aK J]
   obtain⟨j,rfl⟩:∃j:Nat,off=j:=⟨off.toNat,by omega⟩;have hj:j<Z.l.length:=by omega
   have C:=r.block (by omega);have lq:=hb _ _ C;have f:(0:Int)<=(j:Int)/\(j:Int)<Z.l.length:=by omega
   unfold Zn.change;rw[aQ f,aQ f,bG,aH hj,Option.getD_some];obtain⟨_,k⟩:=(Avm o.wf hj).2;simp only[Aa,Ff,N0,Ar];rw[Gy O,Cz g rfl];simp only[Aa,Ar];rw[Gy O,Cz g rfl];simp only[Aa,Ar,r.ix hj];rw[Gy lq,Cn C rfl (Bij o.wf hj)];simp only[Ar];refine Ok.bE (Bhn (K:=K) A he (h:=h.lift) (by rw[Br];exact U) k L (w.u8 _ (av _)) up (Da hb) hK) (fun _ _ p=>p.2.1) ?_;rintro _ J h2 ⟨rfl,_,W⟩ sm E;have t:=E.hb hb;have u:=E.at hb C;have H:=Awn k L;rw[Gh,Bp6 (v:=.agg (Yy Z.l[j] p)) u rfl (by show Fl (Yy Z.l[j] p)=64;rw[Bf,H]) (A41 o.wf hj H)];have B:=t _ _ u;refine .ret ⟨rfl,⟨⟨s,?_,?_⟩,fun x a=>?_⟩,(Ext.to E).Ao (.inl ⟨fun y=>by rw[y]at hj;simp at hj,rfl⟩) B _,t.put B _⟩
   ·rw[Af _ (Ba C g (by simp))];exact E.at hb g
   ·refine .inr ⟨by rw[bV];omega,by rw[bV];exact r.slice (by omega),Ae _ _ _,?_⟩
    rw[Afa (n:=64),bV];intro x a;rcases dH a with a|a
    ·exact o.wf x a
    ·rw[a];exact H
   ·rcases dH a with a|a
    ·exact o.wf x a
    ·rw[a];exact H
theorem A56(A:Bw disp)(hd:4<=d){D:Dv}(s:G6 h V D F)(hb:HB h)(hK:100<K)(z off:Int)(H:p.length=64)(up:U8 p):
 Ok (Ag TT disp K d false 283 [.ptr V 0,I z,I off,.agg p] h) fun v h'=>(∃n:Int,v=I n/\(n=0↔D.has z=true/\0<=off/\off<(D.zs z.toNat).l.length))/\G6 h' V (D.Ayj z off p) (Bi F h h')/\Au F h h'/\HB h':=by
 obtain⟨e,rfl⟩:∃k,d=k+1:=⟨d-1,by omega⟩;rw[Aoc A (by omega)];simp only[Ahg,Aa];have t:Ext h (h.new (.cells p 30)):=Au.new _ _;have E:(h.new (.cells p 30)).get h.next=some (.cells p 30):=Ad _ _
 have o:HB (h.new (.cells p 30)):=hb.new _;have s1:=s.ext t;generalize h.new (.cells p 30)=T at t E o s1⊢;rw[Agl s1];unfold Dv.Ayj;cases J:D.has z with
 | false=>
  simp only[Aa,aW,gE,aY];exact .ret ⟨⟨13,rfl,by simp⟩,s1.grow s.lt t.next,Ext.to t,o⟩
 | true=>
  have U:=cO J;obtain⟨j,rfl⟩:∃j:Nat,z=j:=⟨z.toNat,by omega⟩;have hj:j<D.n:=by omega
  obtain⟨w,wl,zl,W,q,a,b⟩:=s1;have w':=w.zs j hj;simp only[Aa,Abf,a.list,a.Bje hj,bG,gF];obtain⟨f,rfl⟩:∃k,e=k+1:=⟨e-1,by omega⟩;rw[W7 A (by omega)];refine(A25 (K:=K) (e:=f) A (by omega) (a.An j hj) w' w.size o off E H up hK).Am ?_;rintro _ h2 ⟨rfl,L,c2,u⟩;obtain⟨d3,B⟩:=G6.An w a b wl o hj (w'.change off up) L (c2.mono fun _=>.inr) u (fun y=>.inr ⟨rfl,fun e=>y (by unfold Zn.change;split<;>simp[e])⟩);refine .ret ⟨⟨_,rfl,by split<;>simp_all⟩,?_,(Ext.to t).trans B,u⟩;have d4:G6 h2 V (D.set j ((D.zs j).change off p)) (Bi F h h2):=d3.mono (fun i O=>by
   rcases O with y|y
   ·exact .inl y
   ·exact .inr ⟨bQ t.next y.1,y.2⟩) (Bi.lt s.lt (bQ t.next B.next))
  unfold Zn.change at d4;split
  ·rename_i C
   rw[aQ C]at d4;exact d4
  ·rename_i C
   rw[aM C]at d4;have e:D.set j (D.zs j)=D:=by
    unfold Dv.set;have:Aju D.zs j (D.zs j)=D.zs:=by funext i;unfold Aju;split<;>simp_all
    rw[this]
   rw[e]at d4;exact d4
theorem Lg.len(w:e.Wf):e.cells.length=68:=by unfold Lg.cells;rw[aG,w.len];rfl
theorem Lg.Bmy(w:e.Wf):Mj e.cells 4 64=some e.pat:=by
 rw[E6 (by rw[Lg.len w];omega)];show some ((e.pat).take 64)=_;rw[bR (by rw[w.len];omega)]
theorem Lg.one(e:Lg):e.cells[0]? = some (I e.Mn)/\e.cells[1]? = some (I e.kind)/\e.cells[2]? = some (I e.An)/\e.cells[3]? = some (I e.off):=⟨rfl,rfl,rfl,rfl⟩
theorem Fh.call {f h4:Ab}{M qc qh:Nat}{cs hs:EV}{S:Kx}{dv:Dv}(s:Fh h D S G)(a:Agf h D V M qc qh cs hs ms S F G)(hb:HB h)(d3:G6 f V dv (Bi F h.lift f))(sm:Ag9 f h4)(c4:Au F h h4):
 Fh h4 D { S with dv:=dv } (Bi G h h4)/\Au G h h4/\Agf h4 D V M qc qh cs hs ms { S with dv:=dv } (Bi F h h4) (Bi G h h4):=by
 have d4:G6 h4 V dv (Bi F h h4):=by
  have:=d3.frame (h':=h4) (by rw[sm.next];exact aD _) fun j _=>sm.get j
  refine this.mono (fun j hj=>?_) (Bi.lt a.dev.lt c4.next);rcases hj with y|y
  ·exact .inl y
  ·exact .inr ⟨y.1,by rw[sm.next];exact y.2⟩
 have:=s.put a hb d4 c4;exact⟨this.1,this.2,a.put hb d4 c4⟩
theorem A6j(A:Bw disp)(hK:1000<K)(hd:6<=d){S:Kx}(s:Fh h D S G)(hb:HB h)(w:e.Wf):
 Ok (Ag TT disp K d false 251 [.ptr D 0,.agg e.cells] h) fun v h'=>Fh h' D { S with dv:=S.dv.Ayj e.An e.off e.pat } (Bi G h h')/\Au G h h'/\HB h':=by
 obtain⟨dd,rfl⟩:∃k,d=k+1:=⟨d-1,by omega⟩;rw[Aq4 A (by omega)];simp only[Akh,Aa];have x1:Ext h (h.new (.cells e.cells 32)):=Au.new _ _;have t:(h.new (.cells e.cells 32)).get h.next=some (.cells e.cells 32):=Ad _ _
 have B:HB (h.new (.cells e.cells 32)):=hb.new _;have s1:=s.ext x1;have n1:(h.new (.cells e.cells 32)).next=h.next+1:=rfl
 generalize h.new (.cells e.cells 32)=h1 at x1 t B s1 n1⊢;have nx:¬G h.next:=fun y=>bS _ (s.lt _ y)
 obtain⟨V,M,qc,qh,cs,hs,ms,F,a⟩:=s1.Mn;have lD:=B _ _ a.Dd;have l3:=B _ _ t;obtain⟨_,_,e2,e3⟩:=e.one;rw[Gy lD,Cz a.Dd rfl]
 try simp only[Aa,Ar]
 rw[Gy l3,Ah t rfl e2]
 try simp only[Aa,Ar]
 rw[Gy l3,Ah t rfl e3]
 try simp only[Aa,Ar]
 rw[Gy l3,Cn t rfl (Lg.Bmy w)]
 try simp only[Aa,Ar]
 refine Ok.bC (S:=F) (A56 (K:=K) A (by omega) a.dev.lift (Da B) (by omega) e.An e.off w.len w.u8) (fun _ _ p=>p.2.2.1) ?_;rintro _ h3 h4 s' ⟨⟨n,rfl,_⟩,d3,_,al⟩ sm c4 _;obtain⟨s4,X,a4⟩:=s1.call a B d3 sm c4;have L:=sm.hb al;have t:=X.at B t nx;have fin:∀(f:Ab) (G5:Nat->Prop),Fh f D { S with dv:=S.dv.Ayj e.An e.off e.pat } G5->(∀i,G5 i->Bi G h f i)->Au (Bi G h1 h4) h4 f->HB f->Ok (some (.tuple [],f)) fun v h'=>Fh h' D { S with dv:=S.dv.Ayj e.An e.off e.pat } (Bi G h h')/\Au G h h'/\HB h':=fun f G5 s5 g5 c5 q=>by
  have cc:Au G h f:=((Ext.to x1).trans X).then c5 fun j hj hl=>by
   rcases hj with y|y
   ·exact y
   ·omega
  exact .ret ⟨s5.mono g5 (Bi.lt s.lt cc.next),cc,q⟩
 have gr:∀f:Ab,h4.next<=f.next->∀i,Bi G h1 h4 i->Bi G h f i:=fun f l i E=>by
  rcases E with y|y
  ·exact .inl y
  ·exact .inr ⟨by omega,by omega⟩
 simp only[Ac,I];by_cases hn:n=0
 ·subst hn
  simp only[aC,aA,Aa,Adn];rw[Ah t rfl e2]
  try simp only[Aa]
  rw[Ah t rfl e3];rw[Aw (l:=[I e.An,I e.off]) rfl]
  try simp only[Aa]
  have C:Ext h4 (h4.new (.cells [I 0,I 0] 179)):=Au.new _ _;have bz:(h4.new (.cells [I 0,I 0] 179)).get h4.next=some (.cells [I 0,I 0] 179):=Ad _ _
  refine Ok.st [I e.An,I e.off] (o:=0) (l:=[I 0,I 0]) (Ad _ _) rfl rfl rfl ?_;have C:Ext h4 ((h4.new (.cells [I 0,I 0] 179)).put h4.next (.cells [I e.An,I e.off] 179)):=(Au.new h4 _:Ext _ _).Ao (.inr (aD _)) (aR _) _;have J:((h4.new (.cells [I 0,I 0] 179)).put h4.next (.cells [I e.An,I e.off] 179)).get h4.next=some (.cells [I e.An,I e.off] 179):=Ae _ _ _
  have n5:((h4.new (.cells [I 0,I 0] 179)).put h4.next (.cells [I e.An,I e.off] 179)).next=h4.next+1:=rfl
  simp only[I]at C J n5⊢;generalize (h4.new (.cells [EV.int .i64 0,.int .i64 0] 179)).put h4.next (.cells [.int .i64 e.An,.int .i64 e.off] 179)=f at C J n5⊢
  have q:=C.hb L;have s5:=s4.ext C;have t:=C.at L t;have Y:=a4.frame C.next fun i E=>C.get i (s4.lt i E) id
  have au:=q _ _ Y.Dd;have aw:=q _ _ J;have b5:=q _ _ t;rw[Gy au,Cz Y.Dd rfl]
  try simp only[Aa,Ar]
  rw[Gy aw,Cn J rfl (Ak (n:=2) rfl)]
  try simp only[Aa,Ar]
  obtain⟨p,k,el,up,lp⟩:=Bi6 (h:=f.lift) (by rw[Br];exact Y.map) Y.marks e.An e.off;simp only[kp,I]at el;rw[Afk el]
  try simp only[Aa,Ar]
  have H:Ext f ((f.new (.cells (List.replicate 64 (EV.int .u8 0)++[EV.int .i64 0]) 342)).put f.next (.cells (p++[I k]) 342)):=(Au.new f _:Ext _ _).Ao (.inr (aD _)) (aR _) _;have U:((f.new (.cells (List.replicate 64 (EV.int .u8 0)++[EV.int .i64 0]) 342)).put f.next (.cells (p++[I k]) 342)).get f.next=some (.cells (p++[I k]) 342):=Ae _ _ _
  rw[Gh];refine Ok.st (p++[I k]) (Ad _ _) rfl (by show Fl (p++[I k])=65;rw[Bf,aG,lp];rfl) (Bm (by rw[aG,bT];show _=(p++[I k]).length;rw[aG,lp];rfl)) ?_;generalize (f.new (.cells (List.replicate 64 (EV.int .u8 0)++[EV.int .i64 0]) 342)).put f.next (.cells (p++[I k]) 342)=h6 at H U⊢
  have u:=H.hb q;have s6:=s5.ext H;have t:=H.at q t;have J:=H.at q J;have a6:=Y.frame H.next fun i E=>H.get i (s5.lt i E) id
  have ay:=u _ _ a6.Dd;have az:=u _ _ J;have a1:=u _ _ t;have aa:=u _ _ U
  try simp only[Aa,Ar]
  rw[Gy ay,Cz a6.Dd rfl]
  try simp only[Aa,Ar]
  rw[Gy az,Cn J rfl (Ak (n:=2) rfl)]
  try simp only[Aa,Ar]
  rw[Gy aa,Cn U rfl (l':=p) (by rw[E6 (by rw[aG,lp];show 0+64<=64+1;omega),dE,<-lp,dM])]
  try simp only[Aa,Ar]
  rw[Gy a1,Cn t rfl (Lg.Bmy w)]
  try simp only[Aa,Ar]
  refine Ok.bE (Bl1 (K:=K) lp w.len up w.u8 (Da u) (by omega)) (fun _ _ p=>p.2.1) ?_;rintro _ b6 h7 ⟨rfl,_,_⟩ b7 O;have T:=O.hb u;have s7:=s6.ext O;have a7:=a6.frame O.next fun i E=>O.get i (s6.lt i E) id
  have U:=O.at u U
  try simp only[Aa,Ar]
  rw[Gy aa,Ah U rfl (v:=I k) (by rw[bY (by omega),lp];rfl)];simp only[Aa,Ar,I,Ac];have W:=Awn lp w.len;rw[Aw (l:=Yy p e.pat++[I (Cx .i64 (k+1))]) (by
   show Aca (Dg [(0,64),(64,1)]) [(0,.agg (Yy p e.pat)),(1,.int .i64 (Cx .i64 (k+1)))] (List.replicate 64 (.int .u8 0)++[.int .i64 0])=_;have e1:Mh (List.replicate 64 (EV.int .u8 0)++[EV.int .i64 0]) 0 (Yy p e.pat)=some (Yy p e.pat++[EV.int .i64 0]):=by
    rw[Amn (by rw[aG,W,bT];show 0+64<=64+1;omega),W];rfl
   have e2:Mh (Yy p e.pat++[EV.int .i64 0]) 64 [EV.int .i64 (Cx .i64 (k+1))]=some (Yy p e.pat++[I (Cx .i64 (k+1))]):=by
    rw[Amn (by rw[aG,W];show 64+1<=64+1;omega),<-W,dM,ct (by rw[aG];exact aD _),cS]
   show Ax (Nat.beq (Fl (Yy p e.pat)) 64) (oB (fun z=>Aca (Dg [(0,64),(64,1)]) [(1,.int .i64 (Cx .i64 (k+1)))] z) (Mh (List.replicate 64 (EV.int .u8 0)++[EV.int .i64 0]) 0 (Yy p e.pat))) none=_;rw[Bf,W,cI,Aj,e1];show oB (fun z=>some z) (Mh (Yy p e.pat++[EV.int .i64 0]) 64 [EV.int .i64 (Cx .i64 (k+1))])=_;rw[e2];rfl)]
  obtain⟨ad,eu,a2⟩:=A6x (h:=h7.lift) (M:=M) (ms:=ms) (by rw[Br];exact a7.map) a7.marks e.An e.off (p:=Yy p e.pat) (n:=Cx .i64 (k+1)) (up.xor w.u8) W;simp only[kp,I]at eu;have lM:=T _ _ a7.map;refine Ok.bC (S:=fun i=>i=M) (P:=fun v h'=>v=.tuple []/\h'=h7.lift.put M (.map ad)) ⟨_,_,eu,rfl,rfl⟩ (fun _ _ p=>by rw[p.2];exact(Au.refl (S:=fun i=>i=M) _).Ao (.inl rfl) (h:=h7.lift) lM _) ?_;rintro _ _ h9 cb ⟨rfl,rfl⟩ af c9 _;obtain⟨s8,c8,ch⟩:=s7.Bkv a7 T a2;have e9:∀i,h9.get i=(h7.put M (.map ad)).get i:=fun i=>by
   rw[af.get,Ab.get_put,Ab.get_put,Br]
  have n9:h9.next=h7.next:=af.next
  have s9:=s8.frame (h':=h9) (by rw[n9];exact aD _) fun i _=>e9 i
  refine fin h9 _ s9 (gr h9 (by have:=C.next;have:=H.next;have:=O.next;omega)) ?_ (c9.hb T);refine((Ext.to C).trans ((Ext.to H).trans (Ext.to O))).then c9 fun i E _=>?_
  subst E;exact a4.sub.2.2.1
 ·simp only[hn,aF,aB,Aa]
  exact fin h4 _ s4 (gr h4 (aD _)) (Au.refl _) L
theorem Agf.own{M qc qh f o:Nat}{cs hs q t:EV}{S:Kx}(a:Agf h D V M qc qh cs hs ms S F G)(hb:HB h){Pd:List Lg}
 (g:h'.get D=some (.cells [.ptr V 0,q,t,.map M] 149)) (rc:Cc h' q f 32 68 ev.length (ev.map Lg.cells).flatten) (H:Cc h' t o 32 68 Pd.length (Pd.map Lg.cells).flatten)
 (n:h.next<=h'.next) (k:∀i,i<h.next->i≠D->(0<S.ev.length->i≠qc)->(0<S.Pd.length->i≠qh)->h'.get i=h.get i) (sz:∀i,G i->i<h.next)
 (C:0<ev.length->h.next<=f/\f<h'.next\/f=qc/\0<S.ev.length) (E:0<Pd.length->h.next<=o/\o<h'.next\/o=qh/\0<S.Pd.length) (ne:0<ev.length->0<Pd.length->f≠o) :
 Agf h' D V M f o q t ms ⟨S.dv,ev,Pd⟩ F (Bi G h h'):=by
 obtain⟨b1,b2,b3,b4,J⟩:=a.sub;obtain⟨c1,c2,c3,c4,c5⟩:=a.apart;have L:=hb _ _ a.map;have O:h'.get M=h.get M:=k _ L (Ba a.map a.Dd (by simp)) (fun y=>Ba a.map (a.F7.block y) (by simp)) (fun y=>Ba a.map (a.Aou.block y) (by simp));refine⟨g,by rw[O];exact a.map,a.marks,rc,H,a.dev.frame n fun i u=>k i (sz i (b1 i u)) (fun y=>c1 (y▸u)) (fun y z=>c3 y (z▸u)) (fun y z=>c4 y (z▸u)),⟨fun i u=>.inl (b1 i u),.inl b2,.inl b3,fun y=>?_,fun y=>?_⟩,⟨c1,c2,fun y z=>?_,fun y z=>?_,ne⟩⟩
 ·rcases C y with z|⟨z,v⟩
  ·exact .inr z
  ·rw[z];exact .inl (b4 v)
 ·rcases E y with z|⟨z,v⟩
  ·exact .inr z
  ·rw[z];exact .inl (J v)
 ·rcases C y with x|⟨x,B⟩
  ·have:=sz _ (b1 _ z);omega
  ·rw[x]at z;exact c3 B z
 ·rcases E y with x|⟨x,B⟩
  ·have:=sz _ (b1 _ z);omega
  ·rw[x]at z;exact c4 B z
theorem Bh4(A:Bw disp)(hK:1000<K)(hd:7<=d){S:Kx}(s:Fh h D S G)(hb:HB h)(w:e.Wf)(hn:S.ev.length+S.Pd.length<200):
 Ok (Ag TT disp K d false 224 [.ptr D 0,.agg e.cells] h) fun v h'=>Fh h' D { S with dv:=S.dv.Si e,Pd:=S.Pd++[e] } (Bi G h h')/\Au G h h'/\HB h':=by
 obtain⟨dd,rfl⟩:∃k,d=k+1:=⟨d-1,by omega⟩;rw[Anz A (by omega)];simp only[Ahl,Aa];have x1:Ext h (h.new (.cells e.cells 32)):=Au.new _ _;have q:(h.new (.cells e.cells 32)).get h.next=some (.cells e.cells 32):=Ad _ _
 have E:HB (h.new (.cells e.cells 32)):=hb.new _;have s1:=s.ext x1;have n1:(h.new (.cells e.cells 32)).next=h.next+1:=rfl
 generalize h.new (.cells e.cells 32)=h1 at x1 q E s1 n1⊢;have nx:¬G h.next:=fun y=>bS _ (s.lt _ y)
 obtain⟨V,M,qc,qh,cs,hs,ms,F,a⟩:=s1.Mn;have lD:=E _ _ a.Dd;have l3:=E _ _ q;have el:=Lg.len w;rw[Gy lD,Cz a.Dd rfl]
 try simp only[Aa,Ar]
 rw[Gy l3,Cn q rfl (Ak el)]
 try simp only[Aa,Ar]
 rw[Sl (v:=.agg e.cells) (z:=List.replicate 4 (EV.int .i64 0)++List.replicate 64 (EV.int .u8 0)) rfl (by simp) el (by omega),Ap];obtain⟨h2,e_,U,gx,n2⟩:=nW h1 (.cells (EV.cells (.agg e.cells)) 32);rw[e_];have t:=U.hb E;have q:=U.at E q;have s2:=s1.ext U;have B:=a.frame U.next fun i O=>U.get i (s1.lt i O) id
 have r2:Cc h2.lift hs qh 32 68 S.Pd.length (S.Pd.map Lg.cells).flatten:=B.Aou.frame fun _=>Br _ _
 obtain⟨h3,e3,r3,n3,c3⟩:=Aac (x:=.slice h1.next 0 1 1 false) (n:=1) r2 rfl (by omega) (by omega) (by omega) (X2 (b:=h1.next) (by rw[Br];exact gx) el) (by rw[el]);refine Ok.bC (S:=fun i=>0<S.Pd.length/\i=qh) (P:=fun v h'=>v=.slice h2.lift.next 0 (S.Pd.length+1) (S.Pd.length+1) true/\h'=h3) ⟨_,_,e3,rfl,rfl⟩ (fun _ _ p=>by rw[p.2];exact c3) ?_;rintro _ _ h4 s' ⟨rfl,rfl⟩ sm x4 a6;have T:=x4.hb t;rw[Alk]at r3 n3;rw[Alk];have a7:¬(0<S.Pd.length/\D=qh):=fun y=>Ba B.Dd (B.Aou.block y.1) (by simp) y.2
 have gD:h4.get D=some (.cells [.ptr V 0,cs,hs,.map M] 149):=Au.at x4 t B.Dd a7;have r4:Cc h4 (.slice h2.next 0 (S.Pd.length+1) (S.Pd.length+1) true) h2.next 32 68 (S.Pd.length+1) ((S.Pd.map Lg.cells).flatten++e.cells):=r3.frame fun _=>sm.get _
 have q:h4.get h.next=some (.cells e.cells 32):=Au.at x4 t q fun y=>by
  have:=B.Aou.block y.1;exact Ba q this (by simp) y.2
 have W:=T _ _ gD
 try simp only[Aa]
 rw[Gh (by rcases a6 with rfl|⟨w,rfl,_⟩<;>kernel_rfl)];refine Ok.st1 gD rfl rfl (by show 2<4;decide) ?_;simp only[List.set];have a8:=T _ _ q;have ah:h2.next<h4.next:=by
  have:=r4.block (by omega);exact T _ _ this
 have H:(h4.put D (.cells [EV.ptr V 0,cs,.slice h2.next 0 (S.Pd.length+1) (S.Pd.length+1) true,.map M] 149)).get D=some (.cells [EV.ptr V 0,cs,.slice h2.next 0 (S.Pd.length+1) (S.Pd.length+1) true,.map M] 149):=Ae _ _ _;have k5:∀i,i≠D->(h4.put D (.cells [EV.ptr V 0,cs,.slice h2.next 0 (S.Pd.length+1) (S.Pd.length+1) true,.map M] 149)).get i=h4.get i:=fun i O=>Af _ (cT O)
 have n5:(h4.put D (.cells [EV.ptr V 0,cs,.slice h2.next 0 (S.Pd.length+1) (S.Pd.length+1) true,.map M] 149)).next=h4.next:=rfl
 have u:HB (h4.put D (.cells [EV.ptr V 0,cs,.slice h2.next 0 (S.Pd.length+1) (S.Pd.length+1) true,.map M] 149)):=T.put W _;have c5:Au (Bi G h1 h2) h2 (h4.put D (.cells [EV.ptr V 0,cs,.slice h2.next 0 (S.Pd.length+1) (S.Pd.length+1) true,.map M] 149)):=(x4.mono (fun i O=>.inl (by rw[O.2];exact B.sub.2.2.2.2 O.1))).Ao (.inl (.inl a.sub.2.1)) W _;generalize h4.put D (.cells [EV.ptr V 0,cs,.slice h2.next 0 (S.Pd.length+1) (S.Pd.length+1) true,.map M] 149)=f at H k5 n5 u c5⊢;have aj:h.next≠D:=fun y=>nx (y▸a.sub.2.1)
 have q:f.get h.next=some (.cells e.cells 32):=by rw[k5 _ aj];exact q
 have al:D<f.next:=by rw[n5];exact W
 have ao:h.next<f.next:=by rw[n5];exact a8
 have a5:Agf f D V M qc h2.next cs (.slice h2.next 0 (S.Pd.length+1) (S.Pd.length+1) true) ms ⟨S.dv,S.ev,S.Pd++[e]⟩ F (Bi G h2 f):=by
  refine B.own t H ?_ ?_ c5.next (fun i O h1 _ h3=>?_) s2.lt (fun y=>.inr ⟨rfl,y⟩) (fun _=>.inl ⟨aD _,by rw[n5];exact ah⟩) (fun y _=>?_)
  ·refine B.F7.frame fun y=>?_
   have gc:=B.F7.block y;rw[k5 _ (Ba gc B.Dd (by simp)),Au.at x4 t gc fun z=>B.apart.2.2.2.2 y z.1 z.2,gc]
  ·rw[aG,bm,cj]
   show Cc f _ _ 32 68 (S.Pd.length+1) ((S.Pd.map Lg.cells).flatten++(e.cells++[]));rw[cS];exact r4.frame fun _=>k5 _ (by have:=t _ _ B.Dd;omega)
  ·rw[k5 i h1]
   exact x4.get i O fun y=>h3 y.1 y.2
  ·have:=t _ _ (B.F7.block y);omega
 have bb:∀i,Bi G h2 f i->i<f.next:=Bi.lt s2.lt c5.next
 have s5:Fh f D ⟨S.dv,S.ev,S.Pd++[e]⟩ (Bi G h2 f):=by
  refine⟨bb,⟨by rw[aG];show S.ev.length+(S.Pd.length+1)<=200;omega,s.wf.wf,fun x hx=>?_⟩,V,M,qc,_,cs,_,ms,F,a5⟩;rcases bP.1 hx with hx|hx
  ·exact s.wf.hwf x hx
  ·rw[aP.1 hx];exact w
 have aw:Au G h f:=((Ext.to x1).trans (Ext.to U)).then c5 fun j hj hl=>by
  rcases hj with y|y
  ·exact y
  ·omega
 have cG:∀o,f.next<=o.next->Au (Bi G h2 f) f o->Au G h o:=fun o l c=>aw.then c fun j hj hl=>by
  rcases hj with y|y
  ·exact y
  ·have:=x1.next;have:=U.next;omega
 have fin:∀(o:Ab) (dv:Dv),Fh o D ⟨dv,S.ev,S.Pd++[e]⟩ (Bi (Bi G h2 f) f o)->Au (Bi G h2 f) f o->HB o->dv=S.dv.Si e->Ok (some (.tuple [],o)) fun v h'=>Fh h' D ⟨S.dv.Si e,S.ev,S.Pd++[e]⟩ (Bi G h h')/\Au G h h'/\HB h':=fun o dv X C J he=>by
  subst he;refine .ret ⟨X.mono (fun i O=>?_) (Bi.lt s.lt (cG o C.next C).next),cG o C.next C,J⟩;rcases O with(y|y)|y
  ·exact .inl y
  ·have:=x1.next;have:=U.next;have:=C.next;exact .inr ⟨by omega,by omega⟩
  ·exact .inr ⟨by have:=aw.next;omega,y.2⟩
 obtain⟨_,e1,e2,_⟩:=e.one;rw[Ah q rfl e1];simp only[Ac,I];have L:∀st:Nat,S.dv.fail e.An st=S.dv.Si e ->
  Ok (Js 6 63 (((DX.ld ⟨0,[],[],[],[]⟩ 3 D).ld 5 h.next)) f (fun h=>O0 K (.ptr V 0) (I e.An) (I st) h) fun _ h s=>some (.tuple [],h)) fun v h'=>Fh h' D ⟨S.dv.Si e,S.ev,S.Pd++[e]⟩ (Bi G h h')/\Au G h h'/\HB h':=by
  intro st bf;refine Ok.bC (S:=F) (Bbg (K:=K) a5.dev.lift (Da u) e.An st) (fun _ _ p=>p.2.1) ?_;rintro _ h6 o s' ⟨d6,_,bj⟩ sm C _;obtain⟨X,Y,_⟩:=s5.call a5 u d6 sm C;exact fin o _ X Y (sm.hb bj) bf
 by_cases k1:e.kind=1
 ·simp only[k1,aB,Aa]
  rw[Cn q rfl (Ak el)];refine(A6j (K:=K) A hK (by omega) s5 u w).Am ?_;rintro _ o ⟨X,C,J⟩;exact fin o _ X C J (by unfold Dv.Si;rw[aQ k1])
 ·simp only[k1,aA,Aa]
  by_cases k2:e.kind=2
  ·simp only[k2,aB,Aa,Ar]
   rw[Gy al,Cz H rfl]
   try simp only[Aa,Ar]
   rw[Gy ao,Ah q rfl e2];exact L 3 (by unfold Dv.Si;rw[aM k1,aQ k2])
  ·simp only[k2,aA,Aa]
   by_cases k3:e.kind=3
   ·simp only[k3,aB,Aa,Ar]
    rw[Gy al,Cz H rfl]
    try simp only[Aa,Ar]
    rw[Gy ao,Ah q rfl e2];exact L 4 (by unfold Dv.Si;rw[aM k1,aM k2,aQ k3])
   ·simp only[k3,aA,Aa]
    by_cases k4:e.kind=4
    ·simp only[k4,aB,Aa,Cz H rfl]
     refine(Axd (K:=K) a5.dev u).Am ?_;rintro _ o ⟨d9,C,J⟩;obtain⟨X,Y⟩:=s5.put a5 u (d9.grow a5.dev.lt C.next) C;exact fin o _ X Y J (by unfold Dv.Si;rw[aM k1,aM k2,aM k3,aQ k4])
    ·simp only[k4,aA,Aa]
     exact fin f S.dv (s5.grow s5.lt (aD _)) (Au.refl _) u (by unfold Dv.Si;rw[aM k1,aM k2,aM k3,aM k4])
theorem Bi9(q o n r:Nat)(op:Bool)(k:EV->R):Ko Aj7 (bin TT .eql 75) (.slice q o n r op) .Al k=k (.bool false):=by kernel_rfl
theorem Bbz(q o z:Nat)(k:EV->R):Ko Aj7 (bin TT .eql 75) (.tail q o z) .Al k=k (.bool false):=by kernel_rfl
theorem A68{q:Nat}(w:∀x∈e::ev,x.Wf)(J:ev.length<=65000)(u:h.get q=some (.vec ((e::ev).map Lg.cells).flatten 32 68))(hb:HB h){kk:EV->Ab->R}
 (o:∀v h' q',Cc h' v q' 32 68 ev.length (ev.map Lg.cells).flatten->Ext h h'->(0<ev.length->h.next<=q')->Ok (kk v h') Q) :
 Ok (Aex 68 (.slice q 0 (e::ev).length (e::ev).length true) (some (.int .i64 1)) none none fun v=>Am (Dw K v h) kk) Q:=by
 have a:Ext h (h.new (.cells [] 32)):=Au.new _ _;have t:Bz (List.replicate 4 (.int .i64 0)++List.replicate 64 (.int .u8 0)) 32 68 0 [] h=some (.slice h.next 0 0 0 false,h.new (.cells [] 32)):=rfl;have wl:∀x∈ev.map Lg.cells,x.length=68:=fun x B=>by
  obtain⟨y,C,rfl⟩:=cY.1 B;exact Lg.len (w y (aT _ C))
 have fl:(ev.map Lg.cells).flatten.length=ev.length*68:=by rw[Afa _ wl,bZ]
 rcases eh ev.length with h0|L
 ·have:ev = []:=bX.1 h0
  subst this;have e1:∀k:EV->R,Aex 68 (.slice q 0 [e].length [e].length true) (some (.int .i64 1)) none none k=k (.tail q 68 0):=fun k=>rfl
  rw[e1];simp only[Dw,Bbz,Aa,Ft];rw[t,Ap];have:Ef 32 68 (.slice h.next 0 0 0 false) (.tail q 68 0) (h.new (.cells [] 32))=some (.slice h.next 0 0 0 false,h.new (.cells [] 32)):=by unfold Ef;rfl
  rw[this,Ap]
  try simp only[Aa]
  exact o _ _ 0 (.empty _ _ _ _ _) a fun y=>absurd y (bS _)
 ·obtain⟨m,hm⟩:∃m,ev.length=m+1:=⟨ev.length-1,by omega⟩
  have e1:∀k:EV->R,Aex 68 (.slice q 0 (e::ev).length (e::ev).length true) (some (.int .i64 1)) none none k=k (.slice q 68 ev.length ev.length true):=fun k=>by
   rw[bK,hm];rfl
  rw[e1];simp only[Dw,Bi9,Aa,Ft];rw[t,Ap];have E:O8 (h.new (.cells [] 32)) 68 ev.length (.slice q 68 ev.length ev.length true)=some (ev.map Lg.cells).flatten:=by
   show Ax (Nat.beq ev.length 0) (some []) (Ye _ q 68 (Nat.mul ev.length 68))=_;rw[show Nat.beq ev.length 0=false by rw[hm];rfl,Bc];unfold Ye Ave;rw[a.at hb u];have el:=Lg.len (w e (aV ..));show Mj (e.cells++(ev.map Lg.cells).flatten) 68 (ev.length*68)=_;rw[E6 (by rw[aG,el,fl];exact aD _),<-el,dG,bR (by rw[fl,el];exact aD _)]
  have ap:=Xo (h:=h.new (.cells [] 32)) (b:=h.next) (e:=32) (x:=.slice q 68 ev.length ev.length true) rfl (by omega) E fl 0;rw[show ∀(x:R) (k f:EV->Ab->R),Am (Am x k) f=Am x fun v h=>Am (k v h) f from fun x k f=>by cases x<;>rfl];refine ap.Am ?_;rintro v h2 ⟨q',r,H,l⟩;rw[Ap];exact o v h2 q' r (a.trans H) fun y=>by have:=l y;have:=a.next;omega
theorem Bm3(A:Bw disp)(hK:1000<K)(hd:9<=d):∀(m:Nat) (S:Kx) (h:Ab) (G:Nat->Prop),S.ev.length<m->Fh h D S G->HB h ->
 Ok (J0 (Ag TT disp K d false) (Ag TT disp K d true) K m (.ptr D 0) h) fun v h'=>Fh h' D S.due (Bi G h h')/\Au G h h'/\HB h':=by
 intro m;induction m with
 | zero=>intro S h G hm;omega
 | succ m ih=>
  intro S h G hm s hb;obtain⟨V,M,qc,qh,cs,hs,ms,F,a⟩:=s.Mn;obtain⟨zl,z,q,b,_⟩:=a.dev.Mn;have lD:=hb _ _ a.Dd;have lV:=hb _ _ b.dev;have stay:S.due=S->Ok (some (.tuple [],h)) fun(_:EV) h'=>Fh h' D S.due (Bi G h h')/\Au G h h'/\HB h':=fun y=>by
   rw[y];exact .ret ⟨s.grow s.lt (aD _),Au.refl _,hb⟩
  simp only[J0,Aa,Ar,Ce lD,Cz a.Dd rfl];have O:Tu K (.ptr V 0) h.lift=some (.bool S.dv.down,h.lift):=by
   simp only[Tu,Aa,Cz b.lift.dev rfl]
  rw[Afk O];obtain⟨dv,ev,Pd⟩:=S;simp only at a O b hm⊢;cases T:dv.down with
  | true=>
   simp only[Aa,Ac,Ar,Nl,J2];refine stay ?_;unfold Kx.due;cases ev with
   | nil=>rfl
   | cons e r=>unfold Azv;rw[aQ (.inl T)]
  | false=>
   simp only[Aa,Ac,Ar];rw[Gy lD,Cz a.Dd rfl];simp only[Aa,a.F7.Hc,Ac];cases ev with
   | nil=>
    simp only[fC,Nl,J2,Aa,Ac];exact stay rfl
   | cons e r=>
    have we:=s.wf.wf e (aV ..);have el:=Lg.len we;have gq:=a.F7.block (Nat.succ_pos _);have lq:=hb _ _ gq;have c0:Mj (((e::r).map Lg.cells).flatten) 0 68=some e.cells:=by
     show Mj (e.cells++_) 0 68=_;rw[E6 (by rw[aG,el];omega),dE,<-el,dM]
    have ag:(((e::r).map Lg.cells).flatten)[0]? = some (I e.Mn):=rfl;rw[aJ (show(0:Int)<((e::r).length:Int) by rw[bK];omega)];simp only[Nl,Aa,Ac,Ar];rw[Gy lD,Cz a.Dd rfl]
    try simp only[Aa,Ar]
    rw[show ∀k:EV->R,Aal 68 cs (.int .i64 0) k=k (.ptr qc (0*68))from fun k=>a.F7.ix (Nat.succ_pos _) .i64 k]
    try simp only[Aa,Ar]
    rw[Gy lq,Ah gq rfl ag]
    try simp only[Aa,Ar]
    rw[Gy lD,Cz a.Dd rfl]
    try simp only[Aa,Ar]
    have ah:Ry K (.ptr V 0) h.lift=some (I dv.cnt,h.lift):=by
     simp only[Ry,Aa,Cz b.lift.dev rfl]
    rw[Afk ah];simp only[I,Ac];by_cases B:e.Mn<=dv.cnt
    ·rw[aJ B]
     simp only[J2,Aa,Aih,Cz a.Dd rfl];rw[show ∀k:EV->R,Aal 68 cs (.int .i64 0) k=k (.ptr qc (0*68))from fun k=>a.F7.ix (Nat.succ_pos _) .i64 k];rw[Cn gq rfl c0]
     try simp only[Aa]
     have ai:(List.replicate 4 (EV.int .i64 0)++List.replicate 64 (EV.int .u8 0)).length=68:=by simp
     refine Ok.st e.cells (Ad _ _) rfl (by show Fl e.cells=68;rw[Bf,el]) (Bm (by rw[ai];exact el.symm)) ?_;obtain⟨E,e_,L,g2,_⟩:=nP h (.cells (List.replicate 4 (EV.int .i64 0)++List.replicate 64 (EV.int .u8 0)) 32) (.cells e.cells 32);rw[e_];have f:=L.hb hb;have s1:=s.ext L;have o:=a.frame L.next fun i t=>L.get i (s.lt i t) id
     have al:=o.F7.block (Nat.succ_pos _);have ao:=o.F7.slice (Nat.succ_pos _);subst ao;simp only[Aa,Cz o.Dd rfl];have aq:=s.wf.ev;refine A68 (K:=K) s.wf.wf (by simp only[bK]at aq;omega) al f ?_;intro v h2 q' r2 u H;have J:=u.hb f;have s2:=s1.ext u;have a2:=o.frame u.next fun i t=>u.get i (s1.lt i t) id
     have g2:=u.at f g2
     try simp only[Aa]
     have U:=J _ _ a2.Dd;refine Ok.st1 a2.Dd r2.plain.1 r2.plain.2 (by show 1<4;decide) ?_;simp only[List.set];have W:(h2.put D (.cells [EV.ptr V 0,v,hs,.map M] 149)).get D=some (.cells [EV.ptr V 0,v,hs,.map M] 149):=Ae _ _ _;have k3:∀i,i≠D->(h2.put D (.cells [EV.ptr V 0,v,hs,.map M] 149)).get i=h2.get i:=fun i t=>Af _ (cT t)
     have X:HB (h2.put D (.cells [EV.ptr V 0,v,hs,.map M] 149)):=J.put U _;have c3:Au G h2 (h2.put D (.cells [EV.ptr V 0,v,hs,.map M] 149)):=(Au.refl h2).Ao (.inl a.sub.2.1) U _;have n3:(h2.put D (.cells [EV.ptr V 0,v,hs,.map M] 149)).next=h2.next:=rfl
     generalize h2.put D (.cells [EV.ptr V 0,v,hs,.map M] 149)=C at W k3 X c3 n3⊢;have nD:h.next≠D:=by omega
     have g3:C.get h.next=some (.cells e.cells 32):=by rw[k3 _ nD];exact g2
     have rb:0<r.length->q'<h2.next:=fun y=>J _ _ (r2.block y)
     have a3:Agf C D V M q' qh v hs ms ⟨dv,r,Pd⟩ F (Bi G E C):=by
      have au:E.next<=C.next:=by rw[n3];exact u.next
      have Y:∀i,i<E.next->i≠D->C.get i=E.get i:=fun i t aw=>by rw[k3 i aw,u.get i t id]
      refine o.own f W (r2.frame fun y=>k3 _ (by have:=H y;have:=f _ _ o.Dd;omega)) (o.Aou.frame fun y=>Y _ (f _ _ (o.Aou.block y)) (Ba (o.Aou.block y) o.Dd (by simp))) au (fun i t E _ _=>Y i t E) s1.lt
       (fun y=>.inl ⟨H y,by rw[n3];exact rb y⟩) (fun y=>.inr ⟨rfl,y⟩) fun y z=>?_
      have:=H y;have:=f _ _ (o.Aou.block z);omega
     have ax:Au G h C:=((Ext.to L).trans (Ext.to u)).trans c3;have s3:Fh C D ⟨dv,r,Pd⟩ (Bi G E C):=by
      refine⟨Bi.lt s1.lt (by rw[n3];exact u.next),⟨?_,fun x hx=>s.wf.wf x (aT _ hx),s.wf.hwf⟩,V,M,q',qh,v,hs,ms,F,a3⟩;have:=s.wf.ev;simp only[bK]at this⊢;omega
     rw[Cn g3 rfl (Ak el)];refine(Bh4 (K:=K) A hK (by omega) s3 X we (by have:=s.wf.ev;simp only[bK]at this⊢;omega)).Am ?_;rintro _ h4 ⟨s4,c4,ay⟩;have aa:(Kx.mk dv (e::r) Pd).due=(Kx.mk (dv.Si e) r (Pd++[e])).due:=by
      unfold Kx.due
      conv=>lhs;unfold Azv
      rw[aM (by rw[T];rintro(y|y);exact absurd y (by simp);exact y B)]
     rw[aa];refine(ih ⟨dv.Si e,r,Pd++[e]⟩ h4 _ (by simp only[bK]at hm⊢;omega) s4 ay).mono ?_;rintro _ h5 ⟨s5,c5,az⟩;have t1:=L.next
     have t2:=u.next
     have t4:=c4.next
     have t5:=c5.next
     have a5:Au G h h4:=ax.then c4 fun j hj hl=>by
      rcases hj with y|y
      ·exact y
      ·omega
     have ab:Au G h h5:=a5.then c5 fun j hj hl=>by
      rcases hj with(y|y)|y
      ·exact y
      ·omega
      ·omega
     refine⟨s5.mono (fun i t=>?_) (Bi.lt s.lt ab.next),ab,az⟩;rcases t with((y|y)|y)|y
     ·exact .inl y
     ·exact .inr ⟨by omega,by omega⟩
     ·exact .inr ⟨by omega,by omega⟩
     ·exact .inr ⟨by omega,y.2⟩
    ·rw[aK B]
     simp only[J2,Aa];refine stay ?_;unfold Kx.due Azv;rw[aQ (.inr B)]
theorem A1w(A:Bw disp)(hK:1000<K)(S:Kx):∀d,12<=d->Brk disp K d S:=by
 intro d hd h D G s hb;obtain⟨e,rfl⟩:∃k,d=k+1:=⟨d-1,by omega⟩;rw[Ate A (by omega)];exact Bm3 (K:=K) A hK (by omega) K S h G (by have:=s.wf.ev;omega) s hb
section
def Out(F:Nat->Prop)(h:Ab):Nat->Prop:=fun i=>i<h.next/\¬F i
abbrev Kf(F:Nat->Prop):Ab->Ab->Prop:=Au fun i=>¬F i
theorem Au.kf(c:Au (Out F h) h h'):Kf F h h':=c.mono fun _ y=>y.2
theorem Ext.kf(c:Ext h h'):Kf F h h':=Ext.to c
theorem Kf.less(c:Kf F h h')(s:∀i,F' i->F i):Kf F' h h':=c.mono fun i y z=>y (s i z)
theorem Kf.at(c:Kf F h h')(hb:HB h){o:By}(g:h.get i=some o)(a:F i):h'.get i=some o:=Au.at c hb g fun y=>y a
theorem Ext.As9{a h2:Ab}(x:Ext h a)(c:Kf (Bi F h a) a h2):Kf F h h2:=by
 refine(Ext.to (S:=fun i=>¬F i) x).then c fun i y f z=>y (.inl z)
theorem Sa.frame{H:Nat->Prop}(s:Sa h m S H)(n:h.next<=h'.next)(e:∀i,H i->h'.get i=h.get i):Sa h' m S H:=by
 obtain⟨lt,D,p,bl,ql,np,q,c,G,a⟩:=s;obtain⟨t1,t2,t3,t4,t5,t6⟩:=a.sub;have k:∀i o,h.get i=some o->H i->h'.get i=some o:=fun i o g f=>by rw[e i f];exact g
 exact⟨fun i f=>aN (lt i f) n,D,p,bl,ql,np,q,c,G,⟨k _ _ a.Hf.Hf t2,k _ _ a.Hf.Azx t3⟩,
  ⟨a.Gd.pos,k _ _ a.Gd.Gd t4,k _ _ a.Gd.row t5,fun d hd=>k _ _ (a.Gd.que d hd) (t6 d hd).1,fun d hd=>k _ _ (a.Gd.chan d hd) (t6 d hd).2,a.Gd.inj⟩,
  a.psz,a.drv.frame n fun i f=>e i (t1 i f),a.apart,a.sub⟩
structure Mi.Wp(S:Mi):Prop where
 sm:Sm S.g
 ps:∀d,d<S.g.D.toNat->∀x∈S.ps d,Eu S.g x=d/\¬S.bad x.toNat=1
structure Mi.Wf(S:Mi):Prop extends S.Wp where
 op:(S.a = -1/\S.b = -1)\/((0<=Eu S.g S.a/\¬S.bad S.a.toNat=1)/\(0<=Eu S.g S.b/\¬S.bad S.b.toNat=1))
theorem Akk(s:Sm g){z:Int}(h:0<=Eu g z):Qu z:=by
 have f:=s.d1;have h2:=s.z1;have k:=s.d0;have h4:=s.z0;rcases Aew s z with y|⟨_,_,_,o,q⟩
 ·omega
 ·obtain⟨t,u⟩:=N3 (a:=g.D) (b:=g.Z) (A:=8) (B:=64) (by omega) (by omega) (by omega) (by omega)
  exact⟨by omega,by omega⟩
theorem Avh(s:Sm g){z:Int}(h:0<=Eu g z):0<=z:=by
 rcases Aew s z with y|⟨_,_,_,a,f⟩<;>omega
theorem Mi.Wf.rng(w:S.Wf):Qu S.a/\Qu S.b:=by
 rcases w.op with⟨f,h2⟩|⟨f,h2⟩
 ·rw[f,h2];exact⟨⟨by omega,by omega⟩,⟨by omega,by omega⟩⟩
 ·exact⟨Akk w.sm f.1,Akk w.sm h2.1⟩
theorem A5v(w:∀d,d<g.D.toNat->∀x∈ps d,Eu g x=d/\P x)(n:Nat)(z:Int)(f:0<=Eu g z->P z):∀d,d<g.D.toNat->∀x∈(Ash g n ps z).2 d,Eu g x=d/\P x:=by
 intro d hd x a;unfold Ash at a;split at a
 ·exact w d hd x a
 ·rename_i h0
  split at a
  ·exact w d hd x a
  ·split at a
   ·simp only[upd]at a
    split at a
    ·rename_i e
     subst e;rcases bP.1 a with a|a
     ·exact w _ hd x a
     ·rw[aP.1 a];exact⟨by omega,f (by omega)⟩
    ·exact w d hd x a
   ·exact w d hd x a
theorem A7n(S:Mi)(z u:Int):(S.leave z u).1.g=S.g/\(S.leave z u).1.a=S.a/\(S.leave z u).1.b=S.b/\(S.leave z u).1.u=S.u/\(S.leave z u).1.bad=S.bad:=by
 unfold Mi.leave;split
 ·exact⟨rfl,rfl,rfl,rfl,rfl⟩
 ·split<;>exact⟨rfl,rfl,rfl,rfl,rfl⟩
theorem Mi.Wp.leave(w:S.Wp)(z u:Int):(S.leave z u).1.Wp:=by
 unfold Mi.leave;split
 ·exact w
 ·rename_i h0
  split
  ·refine⟨w.sm,A5v w.ps _ _ fun a y=>h0 (.inr (.inl ?_))⟩
   unfold Mi.Jr;rw[aJ a,aJ y];rfl
  ·exact⟨w.sm,w.ps⟩
theorem A53(S:Mi):S.close.1.g=S.g/\S.close.1.a = -1/\S.close.1.b = -1/\S.close.1.u=0/\S.close.1.bad=S.bad:=by
 unfold Mi.close;obtain⟨f,k,a3,a4,o⟩:=A7n { S with a:=-1,b:=-1,u:=0 } S.a S.u;obtain⟨b1,b2,b3,b4,q⟩:=A7n (({ S with a:=-1,b:=-1,u:=0 }:Mi).leave S.a S.u).1 S.b S.u;exact⟨b1.trans f,b2.trans k,b3.trans a3,b4.trans a4,q.trans o⟩
theorem Mi.Wp.close(w:S.Wp):S.close.1.Wf:=by
 have:({ S with a:=-1,b:=-1,u:=0 }:Mi).Wp:=⟨w.sm,w.ps⟩;obtain⟨k,f,a3,a4,o⟩:=A53 S;exact { toWp:=(this.leave _ _).leave _ _,op:=.inl ⟨f,a3⟩ }
theorem Mi.Wp.mark(w:S.Wp){z:Int}(o:0<=Eu S.g z):(S.mark z).Wp:=by
 refine⟨w.sm,fun d hd x a=>?_⟩;have a:x∈S.dropped z d:=a;unfold Mi.dropped at a;rw[aM (by omega)]at a;have key:∀x,Eu S.g x=d/\¬S.bad x.toNat=1->¬x=z->Eu S.g x=d/\¬(S.mark z).bad x.toNat=1:=fun x a q=>by
  refine⟨a.1,?_⟩;show ¬(if x.toNat=z.toNat then(1:Int)else S.bad x.toNat)=1;have f:=Avh w.sm o;have h2:=Avh w.sm (z:=x) (by rw[a.1];omega);rw[aM (by omega)];exact a.2
 simp only[upd]at a;split at a
 ·rename_i e
  have h2:=(eQ.1 a).2;have f:=w.ps d hd x (by rw[e];exact(eQ.1 a).1);exact key x f (cO h2)
 ·rename_i k
  have f:=w.ps d hd x a;refine key x f fun y=>k ?_
  subst y;omega
theorem Mi.Wf.Bv(w:S.Wf)(z:Int):(S.Bv z).1.Wf:=by
 unfold Mi.Bv;split
 ·exact w
 ·rename_i a
  have a:0<=Eu S.g z:=by omega
  split
  ·exact w
  ·split
   ·rename_i f
    refine { toWp:=w.toWp.mark a,op:=?_ };rcases w.op with y|⟨o,q⟩
    ·exact .inl y
    ·have key:∀x,(0<=Eu S.g x/\¬S.bad x.toNat=1)->¬z=x->0<=Eu S.g x/\¬(S.mark z).bad x.toNat=1:=fun x k f=>by
      refine⟨k.1,?_⟩;show ¬(if x.toNat=z.toNat then(1:Int)else S.bad x.toNat)=1;have t:=Avh w.sm a;have h2:=Avh w.sm k.1;rw[aM (by omega)];exact k.2
     exact .inr ⟨key _ o f.1,key _ q f.2⟩
   ·exact(w.toWp.mark a).close
theorem A5n{k:Nat->List Int}{x y:Int}(w:∀d,d<g.D.toNat->∀x∈ps d,Eu g x=d/\P x)(h:Awe ps g.D.toNat=some (x,y,k)):
 ∃a b:Nat,a<g.D.toNat/\b<g.D.toNat/\a≠b/\ps a=x::k a/\ps b=y::k b/\(∀d,d≠a->d≠b->k d=ps d)/\Fe ps (-1) g.D.toNat=a/\Fe ps a g.D.toNat=b/\(Eu g x=a/\P x)/\(Eu g y=b/\P y):=by
 unfold Awe at h;split at h
 ·cases h
 ·rename_i H
  obtain⟨a,b,e1,e2,C,h2,E,h4,J⟩:=A5e H Ase;rw[e1,e2]at h;injection h with h;injection h with o h;injection h with q f;simp only[bG]at o q f;obtain⟨L,r,u⟩:∃x r,ps a=x::r:=by cases v:ps a with|nil=>exact absurd v h4|cons x r=>exact⟨x,r,rfl⟩
  obtain⟨O,t,B⟩:∃x r,ps b=x::r:=by cases v:ps b with|nil=>exact absurd v J|cons x r=>exact⟨x,r,rfl⟩
  rw[u]at o f;rw[B]at q f;simp only[List.headD_cons,List.tail_cons]at o q f;subst o;subst q;subst f;refine⟨a,b,C,h2,E,?_,?_,fun d d1 d2=>?_,e1,e2,w a C _ (by rw[u];exact aV ..),w b h2 _ (by rw[B];exact aV ..)⟩
  ·rw[u];simp[upd,E]
  ·rw[B];simp[upd]
  ·simp[upd,d1,d2]
theorem Mi.Wf.ready(w:S.Wf):S.ready.1.Wf:=by
 unfold Mi.ready;split
 ·exact w
 ·split
  ·exact { toWp:=⟨w.sm,w.ps⟩,op:=w.op }
  ·cases o:Awe S.ps S.g.D.toNat with
   | none=>exact { toWp:=⟨w.sm,w.ps⟩,op:=w.op }
   | some t=>
    obtain⟨x,y,k⟩:=t;obtain⟨a,b,E,h2,H,q,u,v,_,_,B,C⟩:=A5n w.ps o;refine { toWp:=⟨w.sm,fun d hd z f=>?_⟩,op:=.inr ⟨⟨by show 0<=Eu S.g x;omega,B.2⟩,⟨by show 0<=Eu S.g y;omega,C.2⟩⟩ };have f:z∈k d:=f;refine w.ps d hd z ?_;by_cases d1:d=a
    ·subst d1;rw[q];exact aT _ f
    ·by_cases d2:d=b
     ·subst d2;rw[u];exact aT _ f
     ·rw[v d d1 d2]at f;exact f
structure Df(h:Ab)(m:Nat)(S:Mi)(F:Nat->Prop):Prop where
 s:Sa h m S (Out F h)
 lt:∀i,F i->i<h.next
 wf:S.Wf
section
variable{S':Mi}
theorem Df.made(M:Df h m S F)(s:Sa h' m S' (Bi (Out F h) h h'))(c:Au (Out F h) h h')(w:S'.Wf):Df h' m S' F/\Kf F h h':=by
 refine⟨⟨s.mono (fun i a=>?_) fun i a=>a.1,fun i a=>aN (M.lt i a) c.next,w⟩,c.kf⟩;rcases a with a|a
 ·exact⟨aN a.1 c.next,a.2⟩
 ·exact⟨a.2,fun y=>by have:=M.lt i y;omega⟩
theorem Df.ext(M:Df h m S F)(hb:HB h)(x:Ext h h'):Df h' m S (Bi F h h'):=by
 refine⟨(M.s.ext hb x).mono (fun i a=>⟨aN a.1 x.next,fun y=>?_⟩) fun i a=>a.1,Bi.lt M.lt x.next,M.wf⟩;rcases y with y|y
 ·exact a.2 y
 ·have:=a.1;omega
theorem Df.less(M:Df h m S F)(s:∀i,F' i->F i):Df h m S F':=
 ⟨M.s.mono (fun i a=>⟨a.1,fun y=>a.2 (s i y)⟩) fun i a=>a.1,fun i a=>M.lt i (s i a),M.wf⟩
theorem Df.Agw {T:Nat->Prop}(M:Df h m S F)(c:Au T h h')(t:∀i,T i->i<h.next->F i):Df h' m S F:=by
 refine⟨(M.s.frame c.next fun i a=>c.get i a.1 fun y=>a.2 (t i y a.1)).mono (fun i a=>⟨aN a.1 c.next,a.2⟩) fun i a=>a.1,fun i a=>aN (M.lt i a) c.next,M.wf⟩
theorem Df.same(M:Df h m S F)(sm:Ag9 h h'):Df h' m S F:=
 ⟨(M.s.frame (by rw[sm.next];exact aD _) fun i _=>sm.get i).mono (fun i a=>⟨by rw[sm.next];exact a.1,a.2⟩) fun i a=>a.1,fun i a=>by rw[sm.next];exact M.lt i a,M.wf⟩
end
section
variable (A:Bw disp)(hK:10000<K)(M:Df h m S F)(hb:HB h)
include A hK M hb
theorem Btr(n:Nat):Avr disp K n:=fun T _ d hd=>A1w A (by omega) T d hd
theorem Bha(hd:16<=d):Ok (Ag TT disp K d false 232 [.ptr m 0] h) fun v h'=>v=I S.ready.2/\Df h' m S.ready.1 F/\Kf F h h'/\HB h':=by
 refine(Azz A hK hd (Btr A hK M hb S.dr.ev.length) (aD _) M.s hb).mono ?_;rintro v h' ⟨e,s,c,a⟩;obtain⟨f,k⟩:=M.made s c M.wf.ready;exact⟨e,f,k,a⟩
theorem Ym(hd:18<=d){z:Int}(f:Qu z):Ok (Ag TT disp K d false 197 [.ptr m 0,I z] h) fun v h'=>v=I (S.Bv z).2/\Df h' m (S.Bv z).1 F/\Kf F h h'/\HB h':=by
 refine(Aqz A hK hd (Btr A hK M hb S.dr.ev.length) (aD _) M.s hb M.wf.rng.1 M.wf.rng.2 f).mono ?_;rintro v h' ⟨e,s,c,a⟩;obtain⟨o,k⟩:=M.made s c (M.wf.Bv z);exact⟨e,o,k,a⟩
end
end
theorem Fh.lift{S:Kx}(d:Fh h D S G):Fh h.lift D S G:=d.frame (aD _) fun i _=>Br h i
theorem Fh.same {a h4:Ab}{S:Kx}(d:Fh a D S (Bi G h.lift a))(sm:Ag9 a h4):Fh h4 D S (Bi G h h4):=by
 refine(d.frame (h':=h4) (by rw[sm.next];exact aD _) fun j _=>sm.get j).mono (fun j hj=>?_) fun j hj=>?_
 ·rcases hj with y|y
  ·exact .inl y
  ·exact .inr ⟨y.1,by rw[sm.next];exact y.2⟩
 ·rw[sm.next]
  rcases hj with y|y
  ·exact d.lt _ (.inl y)
  ·rw[sm.next]at y;exact y.2
theorem Df.drv{p bl ql np:Nat}{q c:Nat->Nat}{dr:Kx}(M:Df h m S F)(hb:HB h)(a:Aud h m D p bl ql np q c S G (Out F h))(d:Fh h' D dr (Bi G h h'))(f:Au G h h'):
 Df h' m { S with dr:=dr } F/\Kf F h h':=by
 have cH:=f.mono a.sub.1;exact M.made ⟨Bi.lt M.s.lt cH.next,D,p,bl,ql,np,q,c,_,a.Bch hb d f⟩ cH { toWp:=⟨M.wf.sm,M.wf.ps⟩,op:=M.wf.op }
noncomputable def Mi.put(S:Mi)(e:En)(An Bt As seq:Int):Mi × Int:=
 if ¬(Jl { e with Bt:=Bt } An S.u As seq).2=0 then(S,(Jl { e with Bt:=Bt } An S.u As seq).2)else
 ({ S with dr:=(S.dr.append An (Bk (Aat (Jl { e with Bt:=Bt } An S.u As seq).1))).1 },
  if(S.dr.append An (Bk (Aat (Jl { e with Bt:=Bt } An S.u As seq).1))).2.2=0/\¬(S.dr.append An (Bk (Aat (Jl { e with Bt:=Bt } An S.u As seq).1))).2.1=S.u then 30 else(S.dr.append An (Bk (Aat (Jl { e with Bt:=Bt } An S.u As seq).1))).2.2)
theorem Aut:List.replicate 5 (EV.int .i64 0)++List.replicate 44 (EV.int .u8 0)=Fr.zero.cells:=by kernel_rfl
theorem Bfi(A:Bw disp)(hK:10000<K)(hd:16<=d)(M:Df h m S F)(hb:HB h){e:En}(w:e.Wf)(An Bt As seq:Int):
 Ok (Ag TT disp K d false 260 [.ptr m 0,.agg e.cells,I An,I Bt,I As,I seq] h) fun v h'=>v=I (S.put e An Bt As seq).2/\Df h' m (S.put e An Bt As seq).1 F/\Kf F h h'/\HB h':=by
 obtain⟨dd,rfl⟩:∃k,d=k+1:=⟨d-1,by omega⟩;rw[Aoh A (by omega)];have w':({ e with Bt:=Bt }:En).Wf:=⟨w.len,w.u8⟩;have el:=En.Az w;have O:=En.Az w';obtain⟨_,D,p,bl,ql,np,q,c,G,a⟩:=M.s;simp only[Ah5,Aa];refine Ok.st1 (Ad _ _) rfl rfl (by show 5<e.cells.length;omega) ?_;obtain⟨h1,T,x1,U,_⟩:=nP h (.cells e.cells 203) (.cells (e.cells.set 5 (I Bt)) 203);rw[T];have U:h1.get h.next=some (.cells ({ e with Bt:=Bt }:En).cells 203):=U
 unfold Mi.put;generalize ({ e with Bt:=Bt }:En)=e' at U w' O⊢;have B:=x1.hb hb;have l7:=B _ _ U;have m1:=a.Hf.ext fun i o g=>x1.at hb g
 have lm:=B _ _ m1.Hf;rw[Gy l7,Cy U rfl,Ak O]
 try simp only[Aa,Ar]
 rw[Gy lm,m1.ou]
 try simp only[Ar]
 refine Ok.bE (Afg (K:=K) w' (Da B) hK An S.u As seq) (fun _ _ p=>p.2) ?_;rintro _ bf h2 ⟨rfl,_⟩ _ x2;have ah:=x2.hb B;have W:=A5c w' An S.u As seq;generalize X:Jl e' An S.u As seq=fe at W⊢;obtain⟨f,er⟩:=fe;have fl:=Fr.Az W;have zl:=Fr.Az Fr.Gn;simp only[Aa,Aut,Ar];rw[Gh];refine Ok.st f.cells (Ad _ _) rfl (by show Fl f.cells=49;rw[Bf,fl]) (Bm (by rw[zl];exact fl.symm)) ?_;obtain⟨h3,T,x3,Y,_⟩:=nP h2 (.cells Fr.zero.cells 247) (.cells f.cells 247);rw[T];have t:=x3.hb ah;have C:Ext h h3:=(x1.trans x2).trans x3;simp only[I,Ac];by_cases he:er=0
 ·subst he
  simp only[aC,aA,Aa,aY,Abb];obtain⟨hf,aj,_,_⟩:=A55 w' (An:=An) (off:=S.u) (As:=As) (seq:=seq) (by rw[X]);rw[X]at hf;have hf:f=_:=hf;have al:frB f=true:=by rw[hf];exact aj
  have m3:=a.Hf.ext fun i o g=>C.at hb g
  have aq:=t _ _ m3.Hf;have au:=t _ _ Y
  try simp only[Ar]
  rw[Gy aq,m3.table]
  try simp only[Aa,Ar]
  rw[Gy au,Cy Y rfl,Ak fl]
  try simp only[Aa,Ar]
  refine Ok.bE (Am7 (K:=K) W al (Da t) hK) (fun _ _ p=>p.2) ?_;rintro _ bo h4 ⟨rfl,_⟩ _ x4;have aw:=x4.hb t;have ul:(Bk (Aat f)).length=64:=by rw[Bg,Aw0 W]
  try simp only[Aa,Ar]
  rw[Gh];refine Ok.st (Bk (Aat f)) (Ad _ _) rfl (by show Fl (Bk (Aat f))=64;rw[Bf,ul]) (Bm (by rw[bT];exact ul.symm)) ?_;obtain⟨h5,T,x5,aa,_⟩:=nP h4 (.cells (List.replicate 64 (EV.int .u8 0)) 30) (.cells (Bk (Aat f)) 30);rw[T];have E:=x5.hb aw;have ab:Ext h h5:=(C.trans x4).trans x5;have M5:=M.ext hb ab;clear m3 m1 a;obtain⟨_,D,p,bl,ql,np,q,c,G,a⟩:=M5.s;have ax:=E _ _ a.Hf.Hf;have ay:=E _ _ aa;simp only[Acm,Aa,Ac,I,aC,aA,Ar];rw[Gy ax,a.Hf.Dd]
  try simp only[Aa,Ar]
  rw[Gy ay,Cy aa rfl,Ak ul]
  try simp only[Aa,Ar]
  refine Ok.bC (S:=G) (Asq (K:=K) A (by omega) (d:=dd) (by omega) (fun k hk=>A1w A (by omega) S.dr k hk) a.drv.lift (Da E) An ul ⟨_,Be1 W,rfl⟩) (fun _ _ p=>p.2.2.1) ?_;rintro _ h6 h7 s' ⟨rfl,d6,_,az⟩ sm c7 _;have H:=sm.hb az;obtain⟨J,k7⟩:=M5.drv E a (d6.same sm) c7;have L:Kf F h h7:=ab.As9 k7;have J:=J.less fun i (hi:F i)=>Or.inl hi
  generalize S.dr.append An (Bk (Aat f))=ap at J⊢;obtain⟨dr,off,er⟩:=ap;obtain⟨_,D,p,bl,ql,np,q,c,G,a⟩:=J.s;simp only[Aa,I,Ac];by_cases h0:er=0
  ·simp only[h0,aB,Aa,a.Hf.ou,I,Ac,gF]
   by_cases h1:off=S.u
   ·simp only[h1,aC,aA,Aa,N1,Nr,aY]
    exact .ret ⟨rfl,J,L,H⟩
   ·simp only[h1,aF,aB,Aa,N1,Nr,bI]
    exact .ret ⟨rfl,J,L,H⟩
  ·simp only[h0,aA,Aa,N1,Nr,gE,aY]
   exact .ret ⟨rfl,J,L,H⟩
 ·simp only[he,aF,aB,Aa,bI]
  exact .ret ⟨rfl,(M.ext hb C).less fun i (hi:F i)=>Or.inl hi,C.kf,t⟩
theorem Mi.Wf.put(w:S.Wf)(e:En)(An Bt As seq:Int):(S.put e An Bt As seq).1.Wf:=by
 unfold Mi.put;split
 ·exact w
 ·exact { toWp:=⟨w.sm,w.ps⟩,op:=w.op }
noncomputable def Mi.both(S:Mi)(e:En)(As seq:Int):Mi × Int × Int:=
 if ¬(S.put e S.a S.b As seq).2=0 then((S.put e S.a S.b As seq).1,S.a,(S.put e S.a S.b As seq).2)else
 (((S.put e S.a S.b As seq).1.put e S.b S.a As seq).1,S.b,((S.put e S.a S.b As seq).1.put e S.b S.a As seq).2)
theorem Bml(A:Bw disp)(hK:10000<K)(hd:17<=d)(M:Df h m S F)(hb:HB h){e:En}(w:e.Wf)(As seq:Int):
 Ok (Ag TT disp K d false 233 [.ptr m 0,.agg e.cells,I As,I seq] h) fun v h'=>v=.tuple [I (S.both e As seq).2.1,I (S.both e As seq).2.2]/\Df h' m (S.both e As seq).1 F/\Kf F h h'/\HB h':=by
 obtain⟨dd,rfl⟩:∃k,d=k+1:=⟨d-1,by omega⟩;rw[Alz A (by omega)];have el:=En.Az w;simp only[Afx,Aa];obtain⟨U,L,B,u,W⟩:=nW h (.cells e.cells 203);rw[L];have f:=B.hb hb;have H:=M.ext hb B;obtain⟨_,D,p,bl,ql,np,q,c,G,a⟩:=H.s;rw[a.Hf.oa]
 try simp only[Aa]
 rw[a.Hf.ob,Cy u rfl,Ak el]
 try simp only[Aa]
 refine(Bfi A hK (by omega) H f w S.a S.b As seq).Am ?_;rintro _ h2 ⟨rfl,M2,J,o⟩;have t:Kf F h h2:=B.As9 J;have u:=J.at f u (.inr ⟨aD _,by omega⟩);unfold Mi.both;simp only[I,Ac];by_cases h0:(S.put e S.a S.b As seq).2=0
 ·simp only[h0,aC,aA,Aa,aY,Zh]
  rw[Cy u rfl,Ak el]
  try simp only[Aa]
  have M2:=M2.less fun i (C:F i)=>Or.inl C
  refine(Bfi A hK (by omega) M2 o w S.b S.a As seq).Am ?_;rintro _ X ⟨rfl,O,T,E⟩;exact .ret ⟨rfl,O,t.trans T,E⟩
 ·simp only[h0,aF,aB,Aa,bI]
  exact .ret ⟨rfl,M2.less fun i (C:F i)=>Or.inl C,t,o⟩
theorem Mi.Wf.both(w:S.Wf)(e:En)(As seq:Int):(S.both e As seq).1.Wf:=by
 unfold Mi.both;split
 ·exact w.put ..
 ·exact(w.put ..).put ..
theorem Bj1(D:Nat)(g:Gm)(p bl n:Nat)(a b u f:Int):(Abz D g p bl n a b u).set 267 (I f)=Abz D g p bl n a b f:=by
 unfold Abz;have k:([EV.ptr D 0]++gL g++Be).length=263:=by rw[aG,Pv];rfl
 rw[eK _ _ (by omega),k];rfl
noncomputable def Mi.Awi(S:Mi):Mi:={ S with u:=Cx .i64 (S.u+1) }
theorem Mi.Wf.Awi(w:S.Wf):S.Awi.Wf:={ toWp:=⟨w.sm,w.ps⟩,op:=w.op }
theorem A49(M:Df h m S F)(hb:HB h){kk:Ab->R}(o:∀h',Df h' m S.Awi F->Kf F h h'->HB h'->Ext h h'\/True->h'.next=h.next->(∀i,F i->h'.get i=h.get i)->Ok (kk h') Q):
 Ok (Fy (.ptr m 267) h fun v=>Ko A3o (bin TT .add 3) v (.int .i64 1) fun w=>stE 1 (.ptr m 267) w h kk) Q:=by
 obtain⟨lt,D,p,bl,ql,np,q,c,G,a⟩:=M.s;rw[a.Hf.ou];simp only[I,Ac];have ml:=A0g D S.g p bl (S.g.D*S.g.Z).toNat S.a S.b S.u;have lm:=hb _ _ a.Hf.Hf;refine Ok.st1 a.Hf.Hf rfl rfl (by omega) ?_;rw[show EV.int .i64 (Cx .i64 (S.u+1))=I (Cx .i64 (S.u+1))from rfl,Bj1];have c1:Au (fun i=>i=m) h (h.put m (.cells (Abz D S.g p bl (S.g.D*S.g.Z).toNat S.a S.b (Cx .i64 (S.u+1))) 132)):=(Au.refl (S:=fun i=>i=m) h).Ao (.inl rfl) lm _;have t:=a.A6e hb (Ae _ _ _) c1;have k:∀i,F i->i≠m:=fun i f y=>by subst y;exact a.sub.2.1.2 f
 refine o _ ⟨⟨fun i f=>f.1,D,p,bl,ql,np,q,c,G,?_⟩,fun i f=>M.lt i f,M.wf.Awi⟩ (c1.mono fun i f y=>k i y f) (hb.put lm _) (.inr trivial) rfl (fun i f=>Af _ (cT (k i f)));exact t
noncomputable def Mi.Lc(B:Mi × Int × Int):Mi:=if B.2.1=B.1.b then B.1.Awi else B.1
def Me.zero:Me:=⟨0,0,0,0,0,0⟩
noncomputable def Mi.Q6(e:En)(As seq:Int):Nat->Mi->Mi × Me × Int
 | 0,S=>(S,Me.zero,0)
 | n+1,S=>
  if ¬S.ready.2=0 then(S.ready.1,Me.zero,S.ready.2)else
  if(S.ready.1.both e As seq).2.2=0 then((S.ready.1.both e As seq).1.Awi,⟨1,(S.ready.1.both e As seq).1.a,(S.ready.1.both e As seq).1.b,(S.ready.1.both e As seq).1.u,seq,F0 e.bytes⟩,0)else
  if(S.ready.1.both e As seq).2.2=34 then((S.ready.1.both e As seq).1,Me.zero,34)else
  if((Mi.Lc (S.ready.1.both e As seq)).Bv (S.ready.1.both e As seq).2.1).2=34 then(((Mi.Lc (S.ready.1.both e As seq)).Bv (S.ready.1.both e As seq).2.1).1,Me.zero,34)else
  Q6 e As seq n ((Mi.Lc (S.ready.1.both e As seq)).Bv (S.ready.1.both e As seq).2.1).1
noncomputable def Mi.place(S:Mi)(e:En)(As seq:Int):Mi × Me × Int:=
 if ¬(Jl e 0 0 As seq).2=0 then(S,Me.zero,(Jl e 0 0 As seq).2)else Mi.Q6 e As seq 1000 S
noncomputable def Amy(bad:Nat->Int)(n:Nat):Nat:=((List.range n).filter fun i=>¬bad i=1).length
theorem A93(bad:Nat->Int)(n:Nat):Amy bad n<=n:=by
 unfold Amy;have:=eJ (fun i=>decide (¬bad i=1)) (List.range n);simpa using this
theorem Bex(bad:Nat->Int){z:Nat}(k:z<n)(hb:¬bad z=1):Amy (fun i=>if i=z then 1 else bad i) n<Amy bad n:=by
 unfold Amy;induction n with
 | zero=>omega
 | succ n a=>
  rw[dJ,eI,eI,aG,aG];by_cases h:z=n
  ·subst h
   have e1:((List.range z).filter fun i=>decide (¬(if i=z then(1:Int)else bad i)=1))=(List.range z).filter fun i=>decide (¬bad i=1):=by
    refine List.filter_congr fun i f=>?_
    have:=eU.1 f;rw[aM (by omega)]
   have e2:([z].filter fun i=>decide (¬(if i=z then(1:Int)else bad i)=1)) = []:=by simp
   have e3:([z].filter fun i=>decide (¬bad i=1)) = [z]:=by simp[hb]
   rw[e1,e2,e3];simp
  ·have:=a (by omega)
   have e2:([n].filter fun i=>decide (¬(if i=z then(1:Int)else bad i)=1)) = [n].filter fun i=>decide (¬bad i=1):=by
    have:¬n=z:=fun y=>h y.symm
    rw[fJ,fJ];simp[this]
   rw[e2];omega
theorem Bgd(S:Mi):S.ready.1.g=S.g/\S.ready.1.bad=S.bad:=by
 unfold Mi.ready;split
 ·exact⟨rfl,rfl⟩
 ·split
  ·exact⟨rfl,rfl⟩
  ·split<;>exact⟨rfl,rfl⟩
theorem Blr(S:Mi)(e:En)(An Bt As seq:Int):(S.put e An Bt As seq).1.g=S.g/\(S.put e An Bt As seq).1.bad=S.bad/\(S.put e An Bt As seq).1.a=S.a/\(S.put e An Bt As seq).1.b=S.b/\(S.put e An Bt As seq).1.u=S.u/\(S.put e An Bt As seq).1.ps=S.ps:=by
 unfold Mi.put;split<;>exact⟨rfl,rfl,rfl,rfl,rfl,rfl⟩
theorem Bte(S:Mi)(e:En)(As seq:Int):(S.both e As seq).1.g=S.g/\(S.both e As seq).1.bad=S.bad/\(S.both e As seq).1.a=S.a/\(S.both e As seq).1.b=S.b/\(S.both e As seq).1.u=S.u/\(S.both e As seq).1.ps=S.ps /\
 ((S.both e As seq).2.1=S.a\/(S.both e As seq).2.1=S.b):=by
 unfold Mi.both;obtain⟨f,k,a3,a4,o,q⟩:=Blr S e S.a S.b As seq;obtain⟨b1,b2,b3,b4,t,v⟩:=Blr (S.put e S.a S.b As seq).1 e S.b S.a As seq;split
 ·exact⟨f,k,a3,a4,o,q,.inl rfl⟩
 ·exact⟨b1.trans f,b2.trans k,b3.trans a3,b4.trans a4,t.trans o,v.trans q,.inr rfl⟩
theorem Bqk(B:Mi × Int × Int):(Mi.Lc B).g=B.1.g/\(Mi.Lc B).bad=B.1.bad/\(Mi.Lc B).a=B.1.a/\(Mi.Lc B).b=B.1.b:=by
 unfold Mi.Lc;split<;>exact⟨rfl,rfl,rfl,rfl⟩
theorem A6k(S:Mi)(z:Int):(S.Bv z).1.g=S.g:=by
 unfold Mi.Bv;split
 ·rfl
 ·split
  ·rfl
  ·split
   ·rfl
   ·exact(A53 _).1
theorem Anp(w:S.Wf){z:Int}(f:0<=Eu S.g z)(hb:¬S.bad z.toNat=1):Amy (S.Bv z).1.bad (S.g.D*S.g.Z).toNat<Amy S.bad (S.g.D*S.g.Z).toNat:=by
 have a:(S.Bv z).1.bad=fun i=>if i=z.toNat then 1 else S.bad i:=by
  unfold Mi.Bv;rw[aM (by omega),aM (by unfold Mi.Jr;rw[aK hb,eD];simp)];split
  ·rfl
  ·exact(A53 _).2.2.2.2
 rw[a];refine Bex S.bad ?_ hb;rcases Aew w.sm z with y|⟨_,_,_,k,o⟩<;>omega
theorem Bet(w:S.Wf)(h:S.ready.2=0):(0<=Eu S.ready.1.g S.ready.1.a/\¬S.ready.1.bad S.ready.1.a.toNat=1)/\(0<=Eu S.ready.1.g S.ready.1.b/\¬S.ready.1.bad S.ready.1.b.toNat=1):=by
 rcases w.ready.op with⟨y,_⟩|y
 ·exfalso
  revert h y;unfold Mi.ready;split
  ·rename_i h0;intro _ y;exact h0.1 y
  ·split
   ·rename_i k;intro y _;exact k y
   ·cases o:Awe S.ps S.g.D.toNat with
    | none=>intro y _;simp at y
    | some t=>
     obtain⟨x,y,q⟩:=t;obtain⟨a,b,_,_,_,_,_,_,_,_,u,_⟩:=A5n w.ps o;intro _ f;have f:x = -1:=f;have:=Avh w.sm (z:=x) (by rw[u.1];omega);omega
 ·exact y
theorem A34:TT.size 53=some 6/\TT.agg 53=some true:=⟨by kernel_rfl,by kernel_rfl⟩
theorem Bb2(A:Bw disp)(hK:10000<K)(hd:19<=d){e:En}(w:e.Wf)(As seq:Int){X t:Nat}:∀(n f:Nat) (h:Ab) (S:Mi) (F:Nat->Prop),Amy S.bad (S.g.D*S.g.Z).toNat<n->n<=f->Df h m S F->HB h->F X->F t->X≠t ->
 h.get X=some (.cells e.cells 203)->h.get t=some (.cells Me.zero.cells 53) ->
 Ok (Fw (Ag TT disp K d false) (Ag TT disp K d true) K f (.ptr m 0) (I As) (I seq) (.ptr X 0) (.ptr t 0) h) fun v h'=>v=.tuple [.agg (Mi.Q6 e As seq n S).2.1.cells,I (Mi.Q6 e As seq n S).2.2]/\Df h' m (Mi.Q6 e As seq n S).1 (fun i=>F i/\¬i=t)/\Kf (fun i=>F i/\¬i=t) h h'/\HB h':=by
 intro n;induction n with
 | zero=>intro f h S F hg;omega
 | succ n ih=>
  intro f h S F hg hf M hb f5 f8 ay g5 g8;obtain⟨f,rfl⟩:∃k,f=k+1:=⟨f-1,by omega⟩;have el:=En.Az w;have sub:∀i,(F i/\¬i=t)->F i:=fun i hi=>hi.1
  have fin:∀(me:Me) (o:Int) (H:Ab) (S5:Mi),Df H m S5 F->Kf F h H->HB H->(S5,me,o)=Mi.Q6 e As seq (n+1) S ->
   Ok (stE 6 (.ptr t 0) (.agg me.cells) H fun h=>Ii TT [.c (.ptr t 0) 53,.v (I o)] h) fun v h'=>v=.tuple [.agg (Mi.Q6 e As seq (n+1) S).2.1.cells,I (Mi.Q6 e As seq (n+1) S).2.2]/\Df h' m (Mi.Q6 e As seq (n+1) S).1 (fun i=>F i/\¬i=t)/\Kf (fun i=>F i/\¬i=t) h h'/\HB h':=by
   intro me o H S5 M5 k5 E he;have ai:=k5.at hb g8 f8;have l8:=E _ _ ai;refine Ok.st me.cells ai rfl rfl (Bm rfl) ?_;rw[Ea (Ae _ _ _) A34.1 A34.2 rfl,<-he];have c8:Au (fun i=>i=t) H (H.put t (.cells me.cells 53)):=(Au.refl (S:=fun i=>i=t) H).Ao (.inl rfl) l8 _;exact .ret ⟨rfl,(M5.Agw c8 fun i hi _=>hi▸f8).less sub,(k5.less sub).trans (c8.mono fun i hi y=>y.2 hi),E.put l8 _⟩
  unfold Mi.Q6 at fin⊢;simp only[Fw,dr];refine(Bha A hK M hb (by omega)).Am ?_;rintro _ h1 ⟨rfl,M1,k1,aj⟩;simp only[I,Ac];by_cases hr:S.ready.2=0
  ·rw[aM (show ¬¬S.ready.2=0 from fun y=>y hr)]at fin⊢
   have op:=Bet M.wf hr;have ao:=(Bgd S);simp only[hr,aC,aA,Aa,Y4];have a2:=k1.at hb g5 f5;rw[Cy a2 rfl,Ak el]
   try simp only[Aa]
   refine(Bml A hK (by omega) M1 aj w As seq).Am ?_;rintro _ h2 ⟨rfl,M2,k2,C⟩;have J:Kf F h h2:=k1.trans k2;have L:=Bte S.ready.1 e As seq;generalize hB:S.ready.1.both e As seq=B at M2 fin L⊢;obtain⟨T,z,o⟩:=B;simp only at M2 fin L⊢;have cc:z≠z->False:=fun y=>y rfl
   simp only[Aa,I,Ac];by_cases h0:o=0
   ·rw[aQ h0]at fin⊢
    simp only[h0,aB,Aa,Ar];obtain⟨a5,D,p,bl,ql,np,q,c,G,a⟩:=M2.s;have lm:=C _ _ a.Hf.Hf;have a6:=J.at hb g5 f5;rw[Gy lm,a.Hf.oa]
    try simp only[Aa,Ar]
    rw[Gy lm,a.Hf.ob]
    try simp only[Aa,Ar]
    rw[Gy lm,a.Hf.ou]
    try simp only[Aa,Ar]
    rw[Gy lm,a.Hf.table]
    try simp only[Aa,Ar]
    rw[show ∀k:EV->R,Nv 32 1 (.ptr X 6) none none none k=k (.slice X 6 32 32 false)from fun k=>rfl]
    try simp only[Aa,Ar]
    have bs:Bs h2.lift (.slice X 6 32 32 false) X 6 e.bytes:=by
     refine⟨32,false,_,e.cells,by rw[w.len],by rw[w.len];omega,by rw[Br];exact a6,rfl,by rw[el,w.len];exact aD _,?_⟩;unfold En.cells;rw[w.len];show(Bk e.bytes).take 32=_;rw[bR (by rw[Bg,w.len];omega)]
    refine Ok.bE (A8c (K:=K) hK bs (Da C) w.u8 (by rw[w.len];omega)) (fun _ _ p=>p.2) ?_;rintro _ cf W ⟨rfl,_⟩ _ x3;have O:=x3.hb C;have ch:=Bc2 w.u8;simp only[Nk,Aa];rw[show Cx .i64 (Int.ofNat (F0 e.bytes))=(F0 e.bytes:Int)from Cg (by show -9223372036854775808<=((F0 e.bytes:Nat):Int);omega) (by show((F0 e.bytes:Nat):Int)<=_;omega)];rw[Aw (l:=(⟨1,T.a,T.b,T.u,seq,F0 e.bytes⟩:Me).cells) rfl]
    try simp only[Aa,Ar]
    rw[Gh];refine Ok.st (⟨1,T.a,T.b,T.u,seq,F0 e.bytes⟩:Me).cells (Ad _ _) rfl rfl (Bm rfl) ?_;obtain⟨h4,e_,x4,a8,n4⟩:=nP W (.cells [EV.int .i64 0,.int .i64 0,.int .i64 0,.int .i64 0,.int .i64 0,.int .i64 0] 53) (.cells (⟨1,T.a,T.b,T.u,seq,F0 e.bytes⟩:Me).cells 53);rw[e_];have Y:=x4.hb O;have aq:Ext h2 h4:=x3.trans x4;have M4:=M2.ext C aq;refine A49 M4 Y ?_;intro H M5 k5 E _ n5 e5;have bb:Bi F h2 h4 W.next:=.inr ⟨x3.next,by omega⟩
    rw[Cy (by rw[e5 _ bb];exact a8) rfl,Ak (n:=6) rfl]
    try simp only[Aa]
    refine fin _ _ H T.Awi (M5.less fun i (hi:F i)=>Or.inl hi) (J.trans (aq.As9 k5)) E rfl
   ·rw[aM h0]at fin⊢
    simp only[h0,aA,Aa,Ac];by_cases aa:o=34
    ·rw[aQ aa]at fin⊢
     simp only[aa,aB,Aa];rw[Aw (l:=Me.zero.cells) rfl];exact fin _ _ h2 T M2 J C rfl
    ·rw[aM aa]at fin⊢
     simp only[aa,aA,Aa,Xy];obtain⟨a5,D,p,bl,ql,np,q,c,G,a⟩:=M2.s;rw[a.Hf.ob];simp only[I,Ac];have hz:0<=Eu T.g z/\¬T.bad z.toNat=1:=by
      obtain⟨e1,e2,e3,e4,_,_,e5⟩:=L;rw[e1,e2];rcases e5 with e5|e5
      ·rw[e5];exact op.1
      ·rw[e5];exact op.2
     have go:∀(W:Ab),Df W m (Mi.Lc (T,z,o)) F->Kf F h W->HB W ->
      Ok (Pn (Ag TT disp K d false) (Ag TT disp K d true) K (Fw (Ag TT disp K d false) (Ag TT disp K d true) K f) (.ptr m 0) (I As) (I seq) (.ptr X 0) (.ptr t 0) (I z) W) fun v h'=>
       v=.tuple [.agg (if((Mi.Lc (T,z,o)).Bv z).2=34 then(((Mi.Lc (T,z,o)).Bv z).1,Me.zero,(34:Int))else Mi.Q6 e As seq n ((Mi.Lc (T,z,o)).Bv z).1).2.1.cells,I (if((Mi.Lc (T,z,o)).Bv z).2=34 then(((Mi.Lc (T,z,o)).Bv z).1,Me.zero,(34:Int))else Mi.Q6 e As seq n ((Mi.Lc (T,z,o)).Bv z).1).2.2] /\
        Df h' m (if((Mi.Lc (T,z,o)).Bv z).2=34 then(((Mi.Lc (T,z,o)).Bv z).1,Me.zero,(34:Int))else Mi.Q6 e As seq n ((Mi.Lc (T,z,o)).Bv z).1).1 (fun i=>F i/\¬i=t)/\Kf (fun i=>F i/\¬i=t) h h'/\HB h':=by
      intro W M3 k3 O;obtain⟨u1,u2,u3,u4⟩:=Bqk (T,z,o);simp only at u1 u2 u3 u4;have ae:0<=Eu (Mi.Lc (T,z,o)).g z/\¬(Mi.Lc (T,z,o)).bad z.toNat=1:=by rw[u1,u2];exact hz
      have less:=Anp M3.wf ae.1 ae.2;have qg:=A6k (Mi.Lc (T,z,o)) z;simp only[Pn,dr];refine(Ym A hK M3 O (by omega) (Akk M3.wf.sm ae.1)).Am ?_;rintro _ h4 ⟨rfl,M4,k4,Y⟩;have ab:Kf F h h4:=k3.trans k4;simp only[I,Ac];by_cases hq:((Mi.Lc (T,z,o)).Bv z).2=34
      ·rw[aQ hq]at fin⊢
       simp only[hq,aB,Aa];rw[Aw (l:=Me.zero.cells) rfl];exact fin _ _ h4 _ M4 ab Y rfl
      ·rw[aM hq]
       simp only[hq,aA,Aa];have bo:=ab.at hb g5 f5;have bp:=ab.at hb g8 f8;refine(ih f h4 _ F ?_ (by omega) M4 Y f5 f8 ay bo bp).mono ?_
       ·rw[qg]
        have e1:(Mi.Lc (T,z,o)).g=S.g:=by rw[u1,L.1,ao.1]
        have e2:(Mi.Lc (T,z,o)).bad=S.bad:=by rw[u2,L.2.1,ao.2]
        rw[e1,e2]at less;rw[e1];omega
       ·rintro v H ⟨ev,M5,k5,E⟩
        exact⟨ev,M5,(ab.less sub).trans k5,E⟩
     by_cases U:z=T.b
     ·simp only[U,aB,Aa]
      refine A49 M2 C ?_;intro W M3 k3 O _ _ _;have:=go W (by unfold Mi.Lc;rw[aQ U];exact M3) (J.trans k3) O;rw[U]at this;exact this
     ·simp only[U,aA,Aa]
      exact go h2 (by unfold Mi.Lc;rw[aM U];exact M2) J C
  ·rw[aQ hr]at fin⊢
   simp only[hr,aF,aB,Aa];rw[Aw (l:=Me.zero.cells) rfl];exact fin _ _ h1 _ M1 k1 aj rfl
theorem Bhg(A:Bw disp)(hK:10000<K)(hd:20<=d)(M:Df h m S F)(hb:HB h){e:En}(w:e.Wf)(As seq:Int):
 Ok (Ag TT disp K d false 185 [.ptr m 0,.agg e.cells,I As,I seq] h) fun v h'=>v=.tuple [.agg (S.place e As seq).2.1.cells,I (S.place e As seq).2.2]/\Df h' m (S.place e As seq).1 F/\Kf F h h'/\HB h':=by
 obtain⟨dd,rfl⟩:∃k,d=k+1:=⟨d-1,by omega⟩;rw[Ald A (by omega)];have el:=En.Az w;simp only[Adv,Aa];rw[show(h.new (.cells e.cells 203)).next=h.next+1 from rfl];have L:Ext h ((h.new (.cells e.cells 203)).new (.cells Me.zero.cells 53)):=(Au.new _ _).C8 _;have H:((h.new (.cells e.cells 203)).new (.cells Me.zero.cells 53)).get h.next=some (.cells e.cells 203):=by
  rw[Ay _ (aR _)];exact Ad _ _
 have E:((h.new (.cells e.cells 203)).new (.cells Me.zero.cells 53)).get (h.next+1)=some (.cells Me.zero.cells 53):=Ad _ _;have n1:((h.new (.cells e.cells 203)).new (.cells Me.zero.cells 53)).next=h.next+2:=rfl
 rw[show(By.cells [EV.int .i64 0,.int .i64 0,.int .i64 0,.int .i64 0,.int .i64 0,.int .i64 0] 53)=.cells Me.zero.cells 53 from rfl];generalize (h.new (.cells e.cells 203)).new (.cells Me.zero.cells 53)=X at L H E n1⊢;have o:=L.hb hb;rw[Cy H rfl,Ak el]
 try simp only[Aa]
 refine(Afg (K:=K) w o hK 0 0 As seq).Am ?_;rintro _ h2 ⟨rfl,O⟩;have T:=O.hb o;have Y:=A5c w 0 0 As seq;unfold Mi.place;generalize Jl e 0 0 As seq=fe at Y⊢;obtain⟨f,er⟩:=fe;have fl:=Fr.Az Y;have zl:=Fr.Az Fr.Gn;simp only[Aa,Aut];refine Ok.st f.cells (Ad _ _) rfl (by show Fl f.cells=49;rw[Bf,fl]) (Bm (by rw[zl];exact fl.symm)) ?_;obtain⟨q,e_,U,_,_⟩:=nP h2 (.cells Fr.zero.cells 247) (.cells f.cells 247);rw[e_];have t:=U.hb T;have u:Ext h q:=(L.trans O).trans U;have C:Ext X q:=O.trans U;have M3:=M.ext hb u;have H:=C.at o H;have E:=C.at o E;have ln:h.next+2<=q.next:=by have:=C.next;omega
 simp only[I,Ac];by_cases he:er=0
 ·subst he
  simp only[aC,aA,Aa,aY,X9];have gl:=A93 S.bad (S.g.D*S.g.Z).toNat;have:(S.g.D*S.g.Z).toNat<=512:=by
   have X:=M.wf.sm.d1;have h2:=M.wf.sm.z1;have q:=M.wf.sm.d0;have h4:=M.wf.sm.z0;obtain⟨m0,m1⟩:=N3 (a:=S.g.D) (b:=S.g.Z) (A:=8) (B:=64) (by omega) (by omega) (by omega) (by omega);omega
  refine(Bb2 A hK (by omega) w As seq 1000 K q S (Bi F h q) (by omega) (by omega) M3 t (.inr ⟨by omega,by omega⟩) (.inr ⟨by omega,by omega⟩) (by omega) H E).mono ?_;rintro v h4 ⟨ev,M4,k4,W⟩;refine⟨ev,M4.less fun i (J:F i)=>⟨.inl J,fun y=>by have:=M.lt i J;omega⟩,?_,W⟩;exact Au.then (S:=fun i=>¬F i) (Ext.to u) k4 fun i y hl z=>y ⟨.inl z,fun y=>by have:=M.lt i z;omega⟩
 ·simp only[he,aF,aB,Aa,bI]
  rw[Aw (l:=Me.zero.cells) rfl];refine Ok.st Me.zero.cells E rfl rfl (Bm rfl) ?_;rw[Ea (Ae _ _ _) A34.1 A34.2 rfl];have l8:=t _ _ E;have x4:Ext h (q.put (h.next+1) (.cells Me.zero.cells 53)):=u.Ao (.inr (by omega)) l8 _;exact .ret ⟨rfl,(M.ext hb x4).less fun i (J:F i)=>Or.inl J,x4.kf,t.put l8 _⟩
end Go.Ev
