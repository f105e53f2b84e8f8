import Derived.Test.YtokpnommcenoaaaGreatZa
import Derived.Test.YtokpnommcenoaaaGreatXb
set_option linter.all false
namespace Go.Ev
open Go.Proofs
set_option maxRecDepth 100000
variable {p x y:List EV}{D K V b d i j m n:Nat}{h h':Ab}{e:Lq}{Z:Zn}{F G F':Nat->Prop}{ms:List (EV × EV)}{S:Mi}{ev:List Lq}{Q:EV->Ab->Prop}{g:Gm}{ps:Nat->List Int}{P:Int->Prop}{disp:Nat->Option FT}
theorem Ast(a:x.length=64)(f:y.length=64):(X1 x y).length=64:=by unfold X1;rw[List.length_zipWith,a,f];rfl
theorem U8.at(u:U8 x)(f:i<x.length):∃a:Nat,a<256/\x[i]=.int .u8 (Int.ofNat a):=by
 obtain⟨l,k,rfl⟩:=u;rw[Bi]at f;exact⟨l[i],k _ (bF _),by simp[Bc]⟩
theorem U8.xor(f:U8 x)(k:U8 y):U8 (X1 x y):=by
 obtain⟨a,o,rfl⟩:=f;obtain⟨b,hb,rfl⟩:=k;refine⟨List.zipWith Nat.xor a b,fun c q=>?_,?_⟩
 ·obtain⟨i,t,rfl⟩:=List.getElem_of_mem q
  rw[List.getElem_zipWith];rw[List.length_zipWith]at t;exact dV (n:=8) (o _ (bF _)) (hb _ (bF _))
 ·unfold X1 Bc
  rw[List.zipWith_map,List.map_zipWith];rfl
theorem Biz {h0:Ab}{b2 b3 b4:Nat}(T:x.length=64)(U:y.length=64)(W:U8 x)(X:U8 y)(Y:h0.next<=b2)(l3:b2<b3)(l4:b3<b4):∀(m i:Nat) (h:Ab) (l:List EV),64-i<m->i<=64->HB h->Ext h0 h ->
 h.get b2=some (.cells l 30)->l.length=64->(∀j,j<64->l[j]? = if j<i then(X1 x y)[j]? else x[j]?)->h.get b3=some (.cells y 30)->h.get b4=some (.cells Uo 30) ->
 Ok (K3 K m (.ptr b2 0) (.ptr b3 0) (.ptr b4 0) (.int .i64 (i:Int)) h) fun v h'=>v=.agg (X1 x y)/\Ext h0 h'/\HB h':=by
 intro m;induction m with
 | zero=>intro i h l hm;omega
 | succ m ih=>
  intro i h l hm hi hb c B k hj C E;have f:=hb _ _ B;have H:=hb _ _ C;have o:=hb _ _ E;simp only[K3,Ad];by_cases q:i<64
  ·rw[aP (show(i:Int)<64 by omega)]
   obtain⟨a,ha,O⟩:=W.at (i:=i) (by omega);obtain⟨b,J,eb⟩:=X.at (i:=i) (by omega);have e2:l[i]? = some (.int .u8 (Int.ofNat a)):=by rw[hj i q,aK (bS _),aH (by omega),O]
   have e3:y[i]? = some (.int .u8 (Int.ofNat b)):=by rw[aH (by omega),eb]
   have ex:(X1 x y)[i]? = some (Nk .u8 (a ^^^ b)):=by
    unfold X1;rw[List.getElem?_zipWith,aH (show i<x.length by omega),O,e3];rfl
   simp only[Aa,Acw,Z6 q,bC,bc];rw[Ah f (by kernel_rfl),Aj B rfl e2,Ah H (by kernel_rfl),Aj C rfl e3,Bjf ha J,Kh (by kernel_rfl)];refine Ok.Zl B rfl rfl (by omega) ?_;simp only[Acn,Ad];rw[Cn (by omega) (by omega)];refine ih (i+1) _ (l.set i (Nk .u8 (a ^^^ b))) (by omega) (by omega) (hb.put f _) (c.Ak (.inr Y) f _) (Ae _ _ _) (by rw[bR];exact k) (fun j L=>?_) ?_ ?_
   ·rw[List.getElem?_set]
    by_cases t:i=j
    ·subst t;rw[aN rfl,aN (by omega),aN (by omega),ex]
    ·rw[aK t,hj j L]
     by_cases u:j<i
     ·rw[aN u,aN (by omega)]
     ·rw[aK u,aK (by omega)]
   ·rw[Af _ (by omega)];exact C
   ·rw[Af _ (by omega)];exact E
  ·have:i=64:=by omega
   subst this;have el:l=X1 x y:=by
    refine eA fun j=>?_
    by_cases u:j<64
    ·rw[hj j u,aN u]
    ·rw[cA (by omega),cA (by rw[Ast T U];omega)]
   subst el;simp only[show ¬((64:Nat):Int)<64 by omega,aA,Aa,Adp];rw[C8 B rfl,Am k];simp only[Aa];refine Ok.st (X1 x y) E rfl (by show F9 (X1 x y)=64;rw[Bf,k]) (Bm (by rw[Kt];exact k.symm)) ?_;rw[Vi (Ae _ _ _) Aw3.1 Aw3.2 k];exact .ret ⟨rfl,c.Ak (.inr (by omega)) o _,hb.put o _⟩
theorem Bhz(a:x.length=64)(k:y.length=64)(o:U8 x)(q:U8 y)(hb:HB h)(hK:100<K):
 Ok (Oy K (.agg x) (.agg y) h) fun v h'=>v=.agg (X1 x y)/\Ext h h'/\HB h':=by
 simp only[Oy,Aa];have f:Ext h (((h.new (.cells x 30)).new (.cells y 30)).new (.cells (List.replicate 64 (.int .u8 0)) 30)):=((Ar.new _ _).Di _).Di _;refine Biz (h0:=h) (x:=x) (y:=y) a k o q (b2:=h.next) (b3:=h.next+1) (b4:=h.next+2) (aC _) (by omega) (by omega) K 0 _ x (by omega) (by omega) (f.hb hb) f ?_ a (fun j _=>by rw[aK (cT _)]) ?_ (Ac _ _)
 ·rw[Ay _ (by show h.next<h.next+1+1;omega),Ay _ (by show h.next<h.next+1;omega)];exact Ac _ _
 ·rw[Ay _ (by show h.next+1<h.next+1+1;omega)];exact Ac _ _
theorem Bfr(A:Ca disp){e:Nat}(he:2<=e)(H:h.get b=some (.cells p 30))(t:x.length=64)(u:p.length=64)(J:U8 x)(up:U8 p)(hb:HB h)(hK:100<K):
 Ok (Rn (Ag TT disp K e false) (Ag TT disp K e true) (.func 307 [] [.ptr b 0]) [.agg x] h) fun v h'=>v=.agg (X1 x p)/\Ext h h'/\HB h':=by
 obtain⟨d,rfl⟩:∃k,e=k+1:=⟨e-1,by omega⟩;show Ok (Ag TT disp K (d+1) false 307 [.agg x,.ptr b 0] h) _;rw[Ai6 A (by omega)];simp only[Adr,Aa];have q:Ext h ((h.new (.cells x 30)).new (.cells (List.replicate 64 (.int .u8 0)) 30)):=(Ar.new _ _).Di _;have C:((h.new (.cells x 30)).new (.cells (List.replicate 64 (.int .u8 0)) 30)).get h.next=some (.cells x 30):=by
  rw[Ay _ (by show h.next<h.next+1;omega)];exact Ac _ _
 have f:((h.new (.cells x 30)).new (.cells (List.replicate 64 (.int .u8 0)) 30)).get (h.next+1)=some (.cells Uo 30):=Ac _ _;rw[show(h.new (.cells x 30)).next=h.next+1 from rfl];generalize (h.new (.cells x 30)).new (.cells (List.replicate 64 (.int .u8 0)) 30)=O at q C f⊢;have o:=q.hb hb;have L:=q.at hb H;rw[C8 C rfl,Am t];simp only[Aa];rw[C8 L rfl,Am u];simp only[Aa];refine(Bhz (K:=K) t u J up o hK).Ap ?_;rintro _ h2 ⟨rfl,E,a⟩;have f:=E.at o f;have B:=Ast t u;refine Ok.st (X1 x p) f rfl (by show F9 (X1 x p)=64;rw[Bf,B]) (Bm (by rw[Kt];exact B.symm)) ?_;rw[Vi (Ae _ _ _) Aw3.1 Aw3.2 B];exact .ret ⟨rfl,(q.trans E).Ak (.inr (by omega)) (a _ _ f) _,a.put (a _ _ f) _⟩
theorem Ati:∀(l vs:List EV),vs.length<=l.length->Jt l vs=some (vs++l.drop vs.length)
 | l,[],_=>by cases l<;>rfl
 | [],_::_,h=>by simp at h
 | a::l,v::vs,h=>by
  show(match Jt l vs with|some x=>some (v::x)|none=>none)=_;rw[Ati l vs (by simpa using h)];rfl
theorem Asr:∀(l:List EV) (off:Nat) (vs:List EV),off+vs.length<=l.length->F6 l off vs=some (l.take off++vs++l.drop (off+vs.length))
 | [],off,vs,h=>by
  have h0:off=0/\vs = []:=by simp at h;exact⟨h.1,h.2⟩
  obtain⟨rfl,rfl⟩:=h0;rfl
 | a::l,0,vs,h=>by
  show Jt (a::l) vs=_;rw[Ati _ _ (by omega)];simp
 | a::l,off+1,vs,h=>by
  show(match F6 l off vs with|some x=>some (a::x)|none=>none)=_;rw[Asr l off vs (by simp at h;omega)];simp only[fC,List.cons_append];rw[show off+1+vs.length=(off+vs.length)+1 by omega,List.drop_succ_cons]
theorem Alb {l vs:List EV}{off:Nat}(h:off+vs.length<=l.length):Mf l off vs=some (l.take off++vs++l.drop (off+vs.length)):=by rw[Ui,Asr _ _ _ h]
theorem Ad9:∀(l:List (List EV)),(∀x∈l,x.length=n)->l.flatten.length=l.length*n
 | [],_=>by simp
 | a::l,hw=>by
  rw[bm,aF,Ad9 l fun x f=>hw x (aT _ f),hw a (aV ..),bH,fD];omega
theorem Asz{l:List (List EV)}(hw:∀x∈l,x.length=n)(hj:j<l.length):l.flatten=(l.take j).flatten++l[j]++(l.drop (j+1)).flatten/\(l.take j).flatten.length=j*n/\l[j].length=n:=by
 refine⟨?_,?_,hw _ (bF _)⟩
 ·have:l=l.take j++l[j]::l.drop (j+1):=by rw[<-cZ hj,List.take_append_drop]
  conv=>lhs;rw[this]
  rw[cy,bm,br]
 ·rw[Ad9 (n:=n) _ fun x a=>hw x (bO a),bJ,dR (by omega)]
theorem A09{l:List (List EV)}(hw:∀x∈l,x.length=n)(hj:j<l.length):Mh l.flatten (j*n) n=some l[j]:=by
 obtain⟨e,a,h2⟩:=Asz hw hj;rw[e,Fc (by rw[aF,aF,a,h2];omega),<-a,br,dE,<-h2,dI]
theorem A1r{l:List (List EV)}(hw:∀x∈l,x.length=n)(hj:j<l.length){v:List EV}(f:v.length=n):Mf l.flatten (j*n) v=some (l.set j v).flatten:=by
 obtain⟨e,a,h2⟩:=Asz hw hj;have e2:(l.set j v).flatten=(l.take j).flatten++v++(l.drop (j+1)).flatten:=by
  rw[List.set_eq_take_append_cons_drop,aN hj,cy,bm,br]
 have k:l.flatten.length=j*n+n+(l.drop (j+1)).flatten.length:=by rw[e,aF,aF,a,h2]
 have t1:l.flatten.take (j*n)=(l.take j).flatten:=by rw[e,br,<-a,dI]
 have t2:l.flatten.drop (j*n+n)=(l.drop (j+1)).flatten:=by
  rw[show j*n+n=((l.take j).flatten++l[j]).length by rw[aF,a,h2],e,dE]
 rw[Alb (by rw[k,f];omega),f,t1,t2,e2]
def Zn.change(Z:Zn)(off:Int)(p:List EV):Zn:=if 0<=off/\off<Z.l.length then { Z with l:=Z.l.set off.toNat (X1 (((Z.l[off.toNat]?).getD Uo)) p) }else Z
theorem Zn.Wf.change{size:Nat}(w:Z.Wf size)(off:Int)(f:U8 p):(Z.change off p).Wf size:=by
 unfold Zn.change;split
 ·refine⟨fun x a=>?_,w.st,by simp only[bR];exact w.safe,by simp only[bR];exact w.len,by simp only[bR];exact w.room⟩
  rcases dF a with a|a
  ·exact w.u8 x a
  ·rw[a]
   refine U8.xor ?_ f;cases k:Z.l[off.toNat]? with
   | none=>exact U8.zs
   | some y=>exact w.u8 _ (dK k)
 ·exact w
theorem Azh(A:Ca disp){e:Nat}(he:2<=e){z q size:Nat}(o:Ft h z q size Z)(w:Z.Wf size)(hs:size<=64)(hb:HB h)(off:Int)(U:h.get b=some (.cells p 30))(L:p.length=64)(up:U8 p)(hK:100<K):
 Ok (J4 (Ag TT disp K e false) (Ag TT disp K e true) K (.ptr z 0) (I off) (.func 307 [] [.ptr b 0]) h) fun v h'=>v=I (if 0<=off/\off<Z.l.length then 0 else 31)/\Ft h' z q size (Z.change off p)/\Ar (fun j=>Z.l≠[]/\j=q) h h'/\HB h':=by
 obtain⟨s,g,r⟩:=o.An;have O:=hb _ _ g;have no:¬(0<=off/\off<Z.l.length)->Ok (some (I 31,h)) fun v h'=>v=I (if 0<=off/\off<Z.l.length then 0 else 31)/\Ft h' z q size (Z.change off p)/\Ar (fun j=>Z.l≠[]/\j=q) h h'/\HB h':=fun T=>by
  unfold Zn.change;rw[aK T,aK T];exact .ret ⟨rfl,o,Ar.refl _,hb⟩
 simp only[J4,I,Ad];by_cases h0:off<0
 ·rw[aP h0]
  simp only[Aa,Ad,Fz];exact no fun y=>by omega
 ·rw[aQ h0]
  simp only[Aa,Ad,Cy g rfl,r.Hz];by_cases J:(Z.l.length:Int)<=off
  ·rw[aP J]
   simp only[Aa,Fz];exact no fun y=>by omega
  ·rw[aQ J]
   obtain⟨j,rfl⟩:∃j:Nat,off=j:=⟨off.toNat,by omega⟩;have hj:j<Z.l.length:=by omega
   have C:=r.block (by omega);have lq:=hb _ _ C;have f:(0:Int)<=(j:Int)/\(j:Int)<Z.l.length:=by omega
   unfold Zn.change;rw[aN f,aN f,bK,aH hj,Option.getD_some];obtain⟨_,k⟩:=(Asz o.wf hj).2;simp only[Aa,Fz,No,Aw];rw[Ah O (by kernel_rfl),Cy g rfl];simp only[Aa,Aw];rw[Ah O (by kernel_rfl),Cy g rfl];simp only[Aa,Aw,r.ix hj];rw[Ah lq (by kernel_rfl),Dj C rfl (A09 o.wf hj)];simp only[Aw];refine Ok.Ds (by kernel_rfl) (by kernel_rfl) (Bfr (K:=K) A he (h:=h.lift) (by rw[By];exact U) k L (w.u8 _ (bF _)) up (Du hb) hK) (fun _ _ p=>p.2.1) ?_;rintro _ J h2 ⟨rfl,_,W⟩ sm E;have t:=E.hb hb;have u:=E.at hb C;have H:=Ast k L;rw[Kh (by kernel_rfl),Bmw (v:=.agg (X1 Z.l[j] p)) u rfl (by show F9 (X1 Z.l[j] p)=64;rw[Bf,H]) (A1r o.wf hj H)];have B:=t _ _ u;refine .ret ⟨rfl,⟨⟨s,?_,?_⟩,fun x a=>?_⟩,(Ext.to E).Ak (.inl ⟨fun y=>by rw[y]at hj;simp at hj,rfl⟩) B _,t.put B _⟩
   ·rw[Af _ (Be C g (by simp))];exact E.at hb g
   ·refine .inr ⟨by rw[bR];omega,by rw[bR];exact r.slice (by omega),Ae _ _ _,?_⟩
    rw[Ad9 (n:=64),bR];intro x a;rcases dF a with a|a
    ·exact o.wf x a
    ·rw[a];exact H
   ·rcases dF a with a|a
    ·exact o.wf x a
    ·rw[a];exact H
theorem A3o(A:Ca disp)(hd:4<=d){D:Dv}(s:Hp h V D F)(hb:HB h)(hK:100<K)(z off:Int)(H:p.length=64)(up:U8 p):
 Ok (Ag TT disp K d false 283 [.ptr V 0,I z,I off,.agg p] h) fun v h'=>(∃n:Int,v=I n/\(n=0↔D.has z=true/\0<=off/\off<(D.zs z.toNat).l.length))/\Hp h' V (D.Av7 z off p) (Bh F h h')/\Ar F h h'/\HB h':=by
 obtain⟨e,rfl⟩:∃k,d=k+1:=⟨d-1,by omega⟩;rw[Amw A (by omega)];simp only[Agy,Aa];have t:Ext h (h.new (.cells p 30)):=Ar.new _ _;have E:(h.new (.cells p 30)).get h.next=some (.cells p 30):=Ac _ _
 have o:HB (h.new (.cells p 30)):=hb.new _;have s1:=s.ext t;generalize h.new (.cells p 30)=T at t E o s1⊢;rw[Ali s1];unfold Dv.Av7;cases J:D.has z with
 | false=>
  simp only[Aa,aU,fR,aY];exact .ret ⟨⟨13,rfl,by simp⟩,s1.grow s.lt t.next,Ext.to t,o⟩
 | true=>
  have U:=cP J;obtain⟨j,rfl⟩:∃j:Nat,z=j:=⟨z.toNat,by omega⟩;have hj:j<D.n:=by omega
  obtain⟨w,wl,zl,W,q,a,b⟩:=s1;have w':=w.zs j hj;simp only[Aa,Aah,a.list,a.Bhl hj,bK,fS];obtain⟨f,rfl⟩:∃k,e=k+1:=⟨e-1,by omega⟩;rw[Wa A (by omega)];refine(Azh (K:=K) (e:=f) A (by omega) (a.An j hj) w' w.size o off E H up hK).Ap ?_;rintro _ h2 ⟨rfl,L,c2,u⟩;obtain⟨d3,B⟩:=Hp.An w a b wl o hj (w'.change off up) L (c2.mono fun _=>.inr) u (fun y=>.inr ⟨rfl,fun e=>y (by unfold Zn.change;split<;>simp[e])⟩);refine .ret ⟨⟨_,rfl,by split<;>simp_all⟩,?_,(Ext.to t).trans B,u⟩;have d4:Hp h2 V (D.set j ((D.zs j).change off p)) (Bh F h h2):=d3.mono (fun i O=>by
   rcases O with y|y
   ·exact .inl y
   ·exact .inr ⟨bN t.next y.1,y.2⟩) (Bh.lt s.lt (bN t.next B.next))
  unfold Zn.change at d4;split
  ·rename_i C
   rw[aN C]at d4;exact d4
  ·rename_i C
   rw[aK C]at d4;have e:D.set j (D.zs j)=D:=by
    unfold Dv.set;have:Aig D.zs j (D.zs j)=D.zs:=by funext i;unfold Aig;split<;>simp_all
    rw[this]
   rw[e]at d4;exact d4
theorem Lq.len(w:e.Wf):e.cells.length=68:=by unfold Lq.cells;rw[aF,w.len];rfl
theorem Lq.Bia(w:e.Wf):Mh e.cells 4 64=some e.pat:=by
 rw[Fc (by rw[Lq.len w];omega)];show some ((e.pat).take 64)=_;rw[bP (by rw[w.len];omega)]
theorem Lq.one(e:Lq):e.cells[0]? = some (I e.N8)/\e.cells[1]? = some (I e.kind)/\e.cells[2]? = some (I e.An)/\e.cells[3]? = some (I e.off):=⟨rfl,rfl,rfl,rfl⟩
theorem F0.call {f h4:Ab}{M qc qh:Nat}{cs hs:EV}{S:Mc}{dv:Dv}(s:F0 h D S G)(a:Aeh h D V M qc qh cs hs ms S F G)(hb:HB h)(d3:Hp f V dv (Bh F h.lift f))(sm:Aot f h4)(c4:Ar F h h4):
 F0 h4 D { S with dv:=dv } (Bh G h h4)/\Ar G h h4/\Aeh h4 D V M qc qh cs hs ms { S with dv:=dv } (Bh F h h4) (Bh G h h4):=by
 have d4:Hp h4 V dv (Bh F h h4):=by
  have:=d3.frame (h':=h4) (by rw[sm.next];exact aC _) fun j _=>sm.get j
  refine this.mono (fun j hj=>?_) (Bh.lt a.dev.lt c4.next);rcases hj with y|y
  ·exact .inl y
  ·exact .inr ⟨y.1,by rw[sm.next];exact y.2⟩
 have:=s.put a hb d4 c4;exact⟨this.1,this.2,a.put hb d4 c4⟩
theorem A4u(A:Ca disp)(hK:1000<K)(hd:6<=d){S:Mc}(s:F0 h D S G)(hb:HB h)(w:e.Wf):
 Ok (Ag TT disp K d false 251 [.ptr D 0,.agg e.cells] h) fun v h'=>F0 h' D { S with dv:=S.dv.Av7 e.An e.off e.pat } (Bh G h h')/\Ar G h h'/\HB h':=by
 obtain⟨dd,rfl⟩:∃k,d=k+1:=⟨d-1,by omega⟩;rw[Ao6 A (by omega)];simp only[Ajf,Aa];have x1:Ext h (h.new (.cells e.cells 32)):=Ar.new _ _;have t:(h.new (.cells e.cells 32)).get h.next=some (.cells e.cells 32):=Ac _ _
 have B:HB (h.new (.cells e.cells 32)):=hb.new _;have s1:=s.ext x1;have n1:(h.new (.cells e.cells 32)).next=h.next+1:=rfl
 generalize h.new (.cells e.cells 32)=h1 at x1 t B s1 n1⊢;have nx:¬G h.next:=fun y=>bS _ (s.lt _ y)
 obtain⟨V,M,qc,qh,cs,hs,ms,F,a⟩:=s1.N8;have lD:=B _ _ a.Dc;have l3:=B _ _ t;obtain⟨_,_,e2,e3⟩:=e.one;rw[Ah lD (by kernel_rfl),Cy a.Dc rfl]
 try simp only[Aa,Aw]
 rw[Ah l3 (by kernel_rfl),Aj t rfl e2]
 try simp only[Aa,Aw]
 rw[Ah l3 (by kernel_rfl),Aj t rfl e3]
 try simp only[Aa,Aw]
 rw[Ah l3 (by kernel_rfl),Dj t rfl (Lq.Bia w)]
 try simp only[Aa,Aw]
 refine Ok.Yh (S:=F) (by kernel_rfl) (by kernel_rfl) (fun _=>by kernel_rfl) (A3o (K:=K) A (by omega) a.dev.lift (Du B) (by omega) e.An e.off w.len w.u8) (fun _ _ p=>p.2.2.1) ?_;rintro _ h3 h4 s' ⟨⟨n,rfl,_⟩,d3,_,aj⟩ sm c4 _;obtain⟨s4,X,a4⟩:=s1.call a B d3 sm c4;have L:=sm.hb aj;have t:=X.at B t nx;have fin:∀(f:Ab) (G5:Nat->Prop),F0 f D { S with dv:=S.dv.Av7 e.An e.off e.pat } G5->(∀i,G5 i->Bh G h f i)->Ar (Bh G h1 h4) h4 f->HB f->Ok (some (.tuple [],f)) fun v h'=>F0 h' D { S with dv:=S.dv.Av7 e.An e.off e.pat } (Bh G h h')/\Ar G h h'/\HB h':=fun f G5 s5 g5 c5 q=>by
  have cc:Ar G h f:=((Ext.to x1).trans X).then c5 fun j hj hl=>by
   rcases hj with y|y
   ·exact y
   ·omega
  exact .ret ⟨s5.mono g5 (Bh.lt s.lt cc.next),cc,q⟩
 have gr:∀f:Ab,h4.next<=f.next->∀i,Bh G h1 h4 i->Bh G h f i:=fun f l i E=>by
  rcases E with y|y
  ·exact .inl y
  ·exact .inr ⟨by omega,by omega⟩
 simp only[Ad,I];by_cases hn:n=0
 ·subst hn
  simp only[aD,aA,Aa,Adc];rw[Aj t rfl e2]
  try simp only[Aa]
  rw[Aj t rfl e3];rw[Az (l:=[I e.An,I e.off]) rfl]
  try simp only[Aa]
  have C:Ext h4 (h4.new (.cells [I 0,I 0] 179)):=Ar.new _ _;have bw:(h4.new (.cells [I 0,I 0] 179)).get h4.next=some (.cells [I 0,I 0] 179):=Ac _ _
  refine Ok.st [I e.An,I e.off] (o:=0) (l:=[I 0,I 0]) (Ac _ _) rfl rfl rfl ?_;have C:Ext h4 ((h4.new (.cells [I 0,I 0] 179)).put h4.next (.cells [I e.An,I e.off] 179)):=(Ar.new h4 _:Ext _ _).Ak (.inr (aC _)) (aE _) _;have J:((h4.new (.cells [I 0,I 0] 179)).put h4.next (.cells [I e.An,I e.off] 179)).get h4.next=some (.cells [I e.An,I e.off] 179):=Ae _ _ _
  have n5:((h4.new (.cells [I 0,I 0] 179)).put h4.next (.cells [I e.An,I e.off] 179)).next=h4.next+1:=rfl
  simp only[I]at C J n5⊢;generalize (h4.new (.cells [EV.int .i64 0,.int .i64 0] 179)).put h4.next (.cells [.int .i64 e.An,.int .i64 e.off] 179)=f at C J n5⊢
  have q:=C.hb L;have s5:=s4.ext C;have t:=C.at L t;have a5:=a4.frame C.next fun i E=>C.get i (s4.lt i E) id
  have aq:=q _ _ a5.Dc;have au:=q _ _ J;have bx:=q _ _ t;rw[Ah aq (by kernel_rfl),Cy a5.Dc rfl]
  try simp only[Aa,Aw]
  rw[Ah au (by kernel_rfl),Dj J rfl (Am (n:=2) rfl)]
  try simp only[Aa,Aw]
  obtain⟨p,k,el,up,lp⟩:=Be6 (h:=f.lift) (by rw[By];exact a5.map) a5.marks e.An e.off;simp only[kp,I]at el;rw[Ji (by kernel_rfl) (by kernel_rfl) el]
  try simp only[Aa,Aw]
  have H:Ext f ((f.new (.cells (List.replicate 64 (EV.int .u8 0)++[EV.int .i64 0]) 342)).put f.next (.cells (p++[I k]) 342)):=(Ar.new f _:Ext _ _).Ak (.inr (aC _)) (aE _) _;have U:((f.new (.cells (List.replicate 64 (EV.int .u8 0)++[EV.int .i64 0]) 342)).put f.next (.cells (p++[I k]) 342)).get f.next=some (.cells (p++[I k]) 342):=Ae _ _ _
  rw[Kh (by kernel_rfl)];refine Ok.st (p++[I k]) (Ac _ _) rfl (by show F9 (p++[I k])=65;rw[Bf,aF,lp];rfl) (Bm (by rw[aF,bT];show _=(p++[I k]).length;rw[aF,lp];rfl)) ?_;generalize (f.new (.cells (List.replicate 64 (EV.int .u8 0)++[EV.int .i64 0]) 342)).put f.next (.cells (p++[I k]) 342)=h6 at H U⊢
  have u:=H.hb q;have s6:=s5.ext H;have t:=H.at q t;have J:=H.at q J;have a6:=a5.frame H.next fun i E=>H.get i (s5.lt i E) id
  have ax:=u _ _ a6.Dc;have ay:=u _ _ J;have az:=u _ _ t;have Y:=u _ _ U
  try simp only[Aa,Aw]
  rw[Ah ax (by kernel_rfl),Cy a6.Dc rfl]
  try simp only[Aa,Aw]
  rw[Ah ay (by kernel_rfl),Dj J rfl (Am (n:=2) rfl)]
  try simp only[Aa,Aw]
  rw[Ah Y (by kernel_rfl),Dj U rfl (l':=p) (by rw[Fc (by rw[aF,lp];show 0+64<=64+1;omega),dA,<-lp,dI])]
  try simp only[Aa,Aw]
  rw[Ah az (by kernel_rfl),Dj t rfl (Lq.Bia w)]
  try simp only[Aa,Aw]
  refine Ok.Ds (by kernel_rfl) (by kernel_rfl) (Bhz (K:=K) lp w.len up w.u8 (Du u) (by omega)) (fun _ _ p=>p.2.1) ?_;rintro _ bz h7 ⟨rfl,_,_⟩ b5 O;have T:=O.hb u;have s7:=s6.ext O;have a7:=a6.frame O.next fun i E=>O.get i (s6.lt i E) id
  have U:=O.at u U
  try simp only[Aa,Aw]
  rw[Ah Y (by kernel_rfl),Aj U rfl (v:=I k) (by rw[bY (by omega),lp];rfl)];simp only[Aa,Aw,I,Ad];have W:=Ast lp w.len;rw[Az (l:=X1 p e.pat++[I (Cx .i64 (k+1))]) (by
   show Aaq (D5 [(0,64),(64,1)]) [(0,.agg (X1 p e.pat)),(1,.int .i64 (Cx .i64 (k+1)))] (List.replicate 64 (.int .u8 0)++[.int .i64 0])=_;have e1:Mf (List.replicate 64 (EV.int .u8 0)++[EV.int .i64 0]) 0 (X1 p e.pat)=some (X1 p e.pat++[EV.int .i64 0]):=by
    rw[Alb (by rw[aF,W,bT];show 0+64<=64+1;omega),W];rfl
   have e2:Mf (X1 p e.pat++[EV.int .i64 0]) 64 [EV.int .i64 (Cx .i64 (k+1))]=some (X1 p e.pat++[I (Cx .i64 (k+1))]):=by
    rw[Alb (by rw[aF,W];show 64+1<=64+1;omega),<-W,dI,cr (by rw[aF];exact aC _),cR]
   show Bb (Nat.beq (F9 (X1 p e.pat)) 64) (oB (fun z=>Aaq (D5 [(0,64),(64,1)]) [(1,.int .i64 (Cx .i64 (k+1)))] z) (Mf (List.replicate 64 (EV.int .u8 0)++[EV.int .i64 0]) 0 (X1 p e.pat))) none=_;rw[Bf,W,cI,Al,e1];show oB (fun z=>some z) (Mf (X1 p e.pat++[EV.int .i64 0]) 64 [EV.int .i64 (Cx .i64 (k+1))])=_;rw[e2];rfl)]
  obtain⟨ab,eu,a1⟩:=A2h (h:=h7.lift) (M:=M) (ms:=ms) (by rw[By];exact a7.map) a7.marks e.An e.off (p:=X1 p e.pat) (n:=Cx .i64 (k+1)) (up.xor w.u8) W;simp only[kp,I]at eu;have lM:=T _ _ a7.map;refine Ok.Yh (S:=fun i=>i=M) (by kernel_rfl) (by kernel_rfl) (fun _=>by kernel_rfl) (P:=fun v h'=>v=.tuple []/\h'=h7.lift.put M (.map ab)) ⟨_,_,eu,rfl,rfl⟩ (fun _ _ p=>by rw[p.2];exact(Ar.refl (S:=fun i=>i=M) _).Ak (.inl rfl) (h:=h7.lift) lM _) ?_;rintro _ _ h9 b8 ⟨rfl,rfl⟩ ae c9 _;obtain⟨s8,c8,cf⟩:=s7.Bid a7 T a1;have e9:∀i,h9.get i=(h7.put M (.map ab)).get i:=fun i=>by
   rw[ae.get,Ab.get_put,Ab.get_put,By]
  have n9:h9.next=h7.next:=ae.next
  have s9:=s8.frame (h':=h9) (by rw[n9];exact aC _) fun i _=>e9 i
  refine fin h9 _ s9 (gr h9 (by have:=C.next;have:=H.next;have:=O.next;omega)) ?_ (c9.hb T);refine((Ext.to C).trans ((Ext.to H).trans (Ext.to O))).then c9 fun i E _=>?_
  subst E;exact a4.sub.2.2.1
 ·simp only[hn,aG,aB,Aa]
  exact fin h4 _ s4 (gr h4 (aC _)) (Ar.refl _) L
theorem Aeh.own{M qc qh f o:Nat}{cs hs q t:EV}{S:Mc}(a:Aeh h D V M qc qh cs hs ms S F G)(hb:HB h){P8:List Lq}
 (g:h'.get D=some (.cells [.ptr V 0,q,t,.map M] 149)) (rc:Ci h' q f 32 68 ev.length (ev.map Lq.cells).flatten) (H:Ci h' t o 32 68 P8.length (P8.map Lq.cells).flatten)
 (n:h.next<=h'.next) (k:∀i,i<h.next->i≠D->(0<S.ev.length->i≠qc)->(0<S.P8.length->i≠qh)->h'.get i=h.get i) (sz:∀i,G i->i<h.next)
 (C:0<ev.length->h.next<=f/\f<h'.next\/f=qc/\0<S.ev.length) (E:0<P8.length->h.next<=o/\o<h'.next\/o=qh/\0<S.P8.length) (ne:0<ev.length->0<P8.length->f≠o) :
 Aeh h' D V M f o q t ms ⟨S.dv,ev,P8⟩ F (Bh G h h'):=by
 obtain⟨b1,b2,b3,b4,J⟩:=a.sub;obtain⟨c1,c2,c3,c4,c5⟩:=a.apart;have L:=hb _ _ a.map;have O:h'.get M=h.get M:=k _ L (Be a.map a.Dc (by simp)) (fun y=>Be a.map (a.Gt.block y) (by simp)) (fun y=>Be a.map (a.An7.block y) (by simp));refine⟨g,by rw[O];exact a.map,a.marks,rc,H,a.dev.frame n fun i u=>k i (sz i (b1 i u)) (fun y=>c1 (y▸u)) (fun y z=>c3 y (z▸u)) (fun y z=>c4 y (z▸u)),⟨fun i u=>.inl (b1 i u),.inl b2,.inl b3,fun y=>?_,fun y=>?_⟩,⟨c1,c2,fun y z=>?_,fun y z=>?_,ne⟩⟩
 ·rcases C y with z|⟨z,v⟩
  ·exact .inr z
  ·rw[z];exact .inl (b4 v)
 ·rcases E y with z|⟨z,v⟩
  ·exact .inr z
  ·rw[z];exact .inl (J v)
 ·rcases C y with x|⟨x,B⟩
  ·have:=sz _ (b1 _ z);omega
  ·rw[x]at z;exact c3 B z
 ·rcases E y with x|⟨x,B⟩
  ·have:=sz _ (b1 _ z);omega
  ·rw[x]at z;exact c4 B z
theorem Bcq(A:Ca disp)(hK:1000<K)(hd:7<=d){S:Mc}(s:F0 h D S G)(hb:HB h)(w:e.Wf)(hn:S.ev.length+S.P8.length<200):
 Ok (Ag TT disp K d false 224 [.ptr D 0,.agg e.cells] h) fun v h'=>F0 h' D { S with dv:=S.dv.Sx e,P8:=S.P8++[e] } (Bh G h h')/\Ar G h h'/\HB h':=by
 obtain⟨dd,rfl⟩:∃k,d=k+1:=⟨d-1,by omega⟩;rw[Am1 A (by omega)];simp only[Aha,Aa];have x1:Ext h (h.new (.cells e.cells 32)):=Ar.new _ _;have q:(h.new (.cells e.cells 32)).get h.next=some (.cells e.cells 32):=Ac _ _
 have H:HB (h.new (.cells e.cells 32)):=hb.new _;have s1:=s.ext x1;have n1:(h.new (.cells e.cells 32)).next=h.next+1:=rfl
 generalize h.new (.cells e.cells 32)=C at x1 q H s1 n1⊢;have nx:¬G h.next:=fun y=>bS _ (s.lt _ y)
 obtain⟨V,M,qc,qh,cs,hs,ms,F,a⟩:=s1.N8;have lD:=H _ _ a.Dc;have l3:=H _ _ q;have el:=Lq.len w;rw[Ah lD (by kernel_rfl),Cy a.Dc rfl]
 try simp only[Aa,Aw]
 rw[Ah l3 (by kernel_rfl),Dj q rfl (Am el)]
 try simp only[Aa,Aw]
 rw[V8 (v:=.agg e.cells) (z:=List.replicate 4 (EV.int .i64 0)++List.replicate 64 (EV.int .u8 0)) rfl (by simp) el (by omega),Au];have U:Ext C (C.new (.cells (EV.cells (.agg e.cells)) 32)):=Ar.new _ _;have gx:(C.new (.cells (EV.cells (.agg e.cells)) 32)).get C.next=some (.cells e.cells 32):=Ac _ _
 have n2:(C.new (.cells (EV.cells (.agg e.cells)) 32)).next=C.next+1:=rfl
 generalize C.new (.cells (EV.cells (.agg e.cells)) 32)=h2 at U gx n2⊢;have t:=U.hb H;have q:=U.at H q;have s2:=s1.ext U;have B:=a.frame U.next fun i T=>U.get i (s1.lt i T) id
 have r2:Ci h2.lift hs qh 32 68 S.P8.length (S.P8.map Lq.cells).flatten:=B.An7.frame fun _=>By _ _
 obtain⟨h3,e3,r3,n3,c3⟩:=Ze (x:=.slice C.next 0 1 1 false) (n:=1) r2 rfl (by omega) (by omega) (by omega) (Xf (b:=C.next) (by rw[By];exact gx) el) (by rw[el]);refine Ok.Yh (S:=fun i=>0<S.P8.length/\i=qh) (by kernel_rfl) (by kernel_rfl) (fun _=>by kernel_rfl) (P:=fun v h'=>v=.slice h2.lift.next 0 (S.P8.length+1) (S.P8.length+1) true/\h'=h3) ⟨_,_,e3,rfl,rfl⟩ (fun _ _ p=>by rw[p.2];exact c3) ?_;rintro _ _ h4 s' ⟨rfl,rfl⟩ sm x4 a1;have W:=x4.hb t;rw[Ai5]at r3 n3;rw[Ai5];have a6:¬(0<S.P8.length/\D=qh):=fun y=>Be B.Dc (B.An7.block y.1) (by simp) y.2
 have gD:h4.get D=some (.cells [.ptr V 0,cs,hs,.map M] 149):=Ar.at x4 t B.Dc a6;have r4:Ci h4 (.slice h2.next 0 (S.P8.length+1) (S.P8.length+1) true) h2.next 32 68 (S.P8.length+1) ((S.P8.map Lq.cells).flatten++e.cells):=r3.frame fun _=>sm.get _
 have q:h4.get h.next=some (.cells e.cells 32):=Ar.at x4 t q fun y=>by
  have:=B.An7.block y.1;exact Be q this (by simp) y.2
 have X:=W _ _ gD
 try simp only[Aa]
 rw[Kh (by rcases a1 with rfl|⟨w,rfl,_⟩<;>kernel_rfl)];refine Ok.Zl gD rfl rfl (by show 2<4;decide) ?_;simp only[List.set];have a7:=W _ _ q;have ag:h2.next<h4.next:=by
  have:=r4.block (by omega);exact W _ _ this
 have J:(h4.put D (.cells [EV.ptr V 0,cs,.slice h2.next 0 (S.P8.length+1) (S.P8.length+1) true,.map M] 149)).get D=some (.cells [EV.ptr V 0,cs,.slice h2.next 0 (S.P8.length+1) (S.P8.length+1) true,.map M] 149):=Ae _ _ _;have k5:∀i,i≠D->(h4.put D (.cells [EV.ptr V 0,cs,.slice h2.next 0 (S.P8.length+1) (S.P8.length+1) true,.map M] 149)).get i=h4.get i:=fun i T=>Af _ (cN T)
 have n5:(h4.put D (.cells [EV.ptr V 0,cs,.slice h2.next 0 (S.P8.length+1) (S.P8.length+1) true,.map M] 149)).next=h4.next:=rfl
 have u:HB (h4.put D (.cells [EV.ptr V 0,cs,.slice h2.next 0 (S.P8.length+1) (S.P8.length+1) true,.map M] 149)):=W.put X _;have c5:Ar (Bh G C h2) h2 (h4.put D (.cells [EV.ptr V 0,cs,.slice h2.next 0 (S.P8.length+1) (S.P8.length+1) true,.map M] 149)):=(x4.mono (fun i T=>.inl (by rw[T.2];exact B.sub.2.2.2.2 T.1))).Ak (.inl (.inl a.sub.2.1)) X _;generalize h4.put D (.cells [EV.ptr V 0,cs,.slice h2.next 0 (S.P8.length+1) (S.P8.length+1) true,.map M] 149)=f at J k5 n5 u c5⊢;have ai:h.next≠D:=fun y=>nx (y▸a.sub.2.1)
 have q:f.get h.next=some (.cells e.cells 32):=by rw[k5 _ ai];exact q
 have aj:D<f.next:=by rw[n5];exact X
 have al:h.next<f.next:=by rw[n5];exact a7
 have a5:Aeh f D V M qc h2.next cs (.slice h2.next 0 (S.P8.length+1) (S.P8.length+1) true) ms ⟨S.dv,S.ev,S.P8++[e]⟩ F (Bh G h2 f):=by
  refine B.own t J ?_ ?_ c5.next (fun i T C _ h3=>?_) s2.lt (fun y=>.inr ⟨rfl,y⟩) (fun _=>.inl ⟨aC _,by rw[n5];exact ag⟩) (fun y _=>?_)
  ·refine B.Gt.frame fun y=>?_
   have gc:=B.Gt.block y;rw[k5 _ (Be gc B.Dc (by simp)),Ar.at x4 t gc fun z=>B.apart.2.2.2.2 y z.1 z.2,gc]
  ·rw[aF,cB,cy]
   show Ci f _ _ 32 68 (S.P8.length+1) ((S.P8.map Lq.cells).flatten++(e.cells++[]));rw[cR];exact r4.frame fun _=>k5 _ (by have:=t _ _ B.Dc;omega)
  ·rw[k5 i C]
   exact x4.get i T fun y=>h3 y.1 y.2
  ·have:=t _ _ (B.Gt.block y);omega
 have ba:∀i,Bh G h2 f i->i<f.next:=Bh.lt s2.lt c5.next
 have s5:F0 f D ⟨S.dv,S.ev,S.P8++[e]⟩ (Bh G h2 f):=by
  refine⟨ba,⟨by rw[aF];show S.ev.length+(S.P8.length+1)<=200;omega,s.wf.wf,fun x hx=>?_⟩,V,M,qc,_,cs,_,ms,F,a5⟩;rcases bL.1 hx with hx|hx
  ·exact s.wf.Z1 x hx
  ·rw[aO.1 hx];exact w
 have au:Ar G h f:=((Ext.to x1).trans (Ext.to U)).then c5 fun j hj hl=>by
  rcases hj with y|y
  ·exact y
  ·omega
 have cG:∀o,f.next<=o.next->Ar (Bh G h2 f) f o->Ar G h o:=fun o l c=>au.then c fun j hj hl=>by
  rcases hj with y|y
  ·exact y
  ·have:=x1.next;have:=U.next;omega
 have fin:∀(o:Ab) (dv:Dv),F0 o D ⟨dv,S.ev,S.P8++[e]⟩ (Bh (Bh G h2 f) f o)->Ar (Bh G h2 f) f o->HB o->dv=S.dv.Sx e->Ok (some (.tuple [],o)) fun v h'=>F0 h' D ⟨S.dv.Sx e,S.ev,S.P8++[e]⟩ (Bh G h h')/\Ar G h h'/\HB h':=fun o dv Y E L he=>by
  subst he;refine .ret ⟨Y.mono (fun i T=>?_) (Bh.lt s.lt (cG o E.next E).next),cG o E.next E,L⟩;rcases T with(y|y)|y
  ·exact .inl y
  ·have:=x1.next;have:=U.next;have:=E.next;exact .inr ⟨by omega,by omega⟩
  ·exact .inr ⟨by have:=au.next;omega,y.2⟩
 obtain⟨_,e1,e2,_⟩:=e.one;rw[Aj q rfl e1];simp only[Ad,I];have O:∀st:Nat,S.dv.fail e.An st=S.dv.Sx e ->
  Ok (Ds 6 63 (((DX.ld ⟨0,[],[],[],[]⟩ 3 D).ld 5 h.next)) f (fun h=>O2 K (.ptr V 0) (I e.An) (I st) h) fun _ h s=>some (.tuple [],h)) fun v h'=>F0 h' D ⟨S.dv.Sx e,S.ev,S.P8++[e]⟩ (Bh G h h')/\Ar G h h'/\HB h':=by
  intro st bb;refine Ok.Yh (S:=F) (by kernel_rfl) (by kernel_rfl) (fun _=>by kernel_rfl) (A5x (K:=K) a5.dev.lift (Du u) e.An st) (fun _ _ p=>p.2.1) ?_;rintro _ h6 o s' ⟨d6,_,bf⟩ sm E _;obtain⟨Y,aa,_⟩:=s5.call a5 u d6 sm E;exact fin o _ Y aa (sm.hb bf) bb
 by_cases k1:e.kind=1
 ·simp only[k1,aB,Aa]
  rw[Dj q rfl (Am el)];refine(A4u (K:=K) A hK (by omega) s5 u w).Ap ?_;rintro _ o ⟨Y,E,L⟩;exact fin o _ Y E L (by unfold Dv.Sx;rw[aN k1])
 ·simp only[k1,aA,Aa]
  by_cases k2:e.kind=2
  ·simp only[k2,aB,Aa,Aw]
   rw[Ah aj (by kernel_rfl),Cy J rfl]
   try simp only[Aa,Aw]
   rw[Ah al (by kernel_rfl),Aj q rfl e2];exact O 3 (by unfold Dv.Sx;rw[aK k1,aN k2])
  ·simp only[k2,aA,Aa]
   by_cases k3:e.kind=3
   ·simp only[k3,aB,Aa,Aw]
    rw[Ah aj (by kernel_rfl),Cy J rfl]
    try simp only[Aa,Aw]
    rw[Ah al (by kernel_rfl),Aj q rfl e2];exact O 4 (by unfold Dv.Sx;rw[aK k1,aK k2,aN k3])
   ·simp only[k3,aA,Aa]
    by_cases k4:e.kind=4
    ·simp only[k4,aB,Aa,Cy J rfl]
     refine(A21 (K:=K) a5.dev u).Ap ?_;rintro _ o ⟨d9,E,L⟩;obtain⟨Y,aa⟩:=s5.put a5 u (d9.grow a5.dev.lt E.next) E;exact fin o _ Y aa L (by unfold Dv.Sx;rw[aK k1,aK k2,aK k3,aN k4])
    ·simp only[k4,aA,Aa]
     exact fin f S.dv (s5.grow s5.lt (aC _)) (Ar.refl _) u (by unfold Dv.Sx;rw[aK k1,aK k2,aK k3,aK k4])
theorem Bfp(q o n r:Nat)(op:Bool)(k:EV->R):Kv Ala (bin TT .eql 75) (.slice q o n r op) .Ao k=k (.bool false):=by kernel_rfl
theorem Bat(q o z:Nat)(k:EV->R):Kv Ala (bin TT .eql 75) (.tail q o z) .Ao k=k (.bool false):=by kernel_rfl
theorem A2e{q:Nat}(w:∀x∈e::ev,x.Wf)(J:ev.length<=65000)(u:h.get q=some (.vec ((e::ev).map Lq.cells).flatten 32 68))(hb:HB h){kk:EV->Ab->R}
 (o:∀v h' q',Ci h' v q' 32 68 ev.length (ev.map Lq.cells).flatten->Ext h h'->(0<ev.length->h.next<=q')->Ok (kk v h') Q) :
 Ok (Aik 68 (.slice q 0 (e::ev).length (e::ev).length true) (some (.int .i64 1)) none none fun v=>Ap (Dx K v h) kk) Q:=by
 have a:Ext h (h.new (.cells [] 32)):=Ar.new _ _;have t:Cd (List.replicate 4 (.int .i64 0)++List.replicate 64 (.int .u8 0)) 32 68 0 [] h=some (.slice h.next 0 0 0 false,h.new (.cells [] 32)):=rfl;have wl:∀x∈ev.map Lq.cells,x.length=68:=fun x B=>by
  obtain⟨y,C,rfl⟩:=cJ.1 B;exact Lq.len (w y (aT _ C))
 have fl:(ev.map Lq.cells).flatten.length=ev.length*68:=by rw[Ad9 _ wl,bU]
 rcases dS ev.length with h0|L
 ·have:ev = []:=bW.1 h0
  subst this;have e1:∀k:EV->R,Aik 68 (.slice q 0 [e].length [e].length true) (some (.int .i64 1)) none none k=k (.tail q 68 0):=fun k=>rfl
  rw[e1];simp only[Dx,Bat,Aa,Ga];rw[t,Au];have:Em 32 68 (.slice h.next 0 0 0 false) (.tail q 68 0) (h.new (.cells [] 32))=some (.slice h.next 0 0 0 false,h.new (.cells [] 32)):=by unfold Em;rfl
  rw[this,Au]
  try simp only[Aa]
  exact o _ _ 0 (.empty _ _ _ _ _) a fun y=>absurd y (bS _)
 ·obtain⟨m,hm⟩:∃m,ev.length=m+1:=⟨ev.length-1,by omega⟩
  have e1:∀k:EV->R,Aik 68 (.slice q 0 (e::ev).length (e::ev).length true) (some (.int .i64 1)) none none k=k (.slice q 68 ev.length ev.length true):=fun k=>by
   rw[bH,hm];rfl
  rw[e1];simp only[Dx,Bfp,Aa,Ga];rw[t,Au];have E:O1 (h.new (.cells [] 32)) 68 ev.length (.slice q 68 ev.length ev.length true)=some (ev.map Lq.cells).flatten:=by
   show Bb (Nat.beq ev.length 0) (some []) (Xo _ q 68 (Nat.mul ev.length 68))=_;rw[show Nat.beq ev.length 0=false by rw[hm];rfl,Bl];unfold Xo As0;rw[a.at hb u];have el:=Lq.len (w e (aV ..));show Mh (e.cells++(ev.map Lq.cells).flatten) 68 (ev.length*68)=_;rw[Fc (by rw[aF,el,fl];exact aC _),<-el,dE,bP (by rw[fl,el];exact aC _)]
  have ap:=Ws (h:=h.new (.cells [] 32)) (b:=h.next) (e:=32) (x:=.slice q 68 ev.length ev.length true) rfl (by omega) E fl 0;rw[show ∀(x:R) (k f:EV->Ab->R),Ap (Ap x k) f=Ap x fun v h=>Ap (k v h) f from fun x k f=>by cases x<;>rfl];refine ap.Ap ?_;rintro v h2 ⟨q',r,H,l⟩;rw[Au];exact o v h2 q' r (a.trans H) fun y=>by have:=l y;have:=a.next;omega
theorem Bgn(A:Ca disp)(hK:1000<K)(hd:9<=d):∀(m:Nat) (S:Mc) (h:Ab) (G:Nat->Prop),S.ev.length<m->F0 h D S G->HB h ->
 Ok (Ke (Ag TT disp K d false) (Ag TT disp K d true) K m (.ptr D 0) h) fun v h'=>F0 h' D S.due (Bh G h h')/\Ar G h h'/\HB h':=by
 intro m;induction m with
 | zero=>intro S h G hm;omega
 | succ m ih=>
  intro S h G hm s hb;obtain⟨V,M,qc,qh,cs,hs,ms,F,a⟩:=s.N8;obtain⟨zl,z,q,b,_⟩:=a.dev.N8;have lD:=hb _ _ a.Dc;have lV:=hb _ _ b.dev;have stay:S.due=S->Ok (some (.tuple [],h)) fun(_:EV) h'=>F0 h' D S.due (Bh G h h')/\Ar G h h'/\HB h':=fun y=>by
   rw[y];exact .ret ⟨s.grow s.lt (aC _),Ar.refl _,hb⟩
  simp only[Ke,Aa,Aw,Ah lD,Cy a.Dc rfl];have O:Td K (.ptr V 0) h.lift=some (.bool S.dv.down,h.lift):=by
   simp only[Td,Aa,Cy b.lift.dev rfl]
  rw[Ji (by kernel_rfl) (by kernel_rfl) O];obtain⟨dv,ev,P8⟩:=S;simp only at a O b hm⊢;cases T:dv.down with
  | true=>
   simp only[Aa,Ad,Aw,Nw,Ka];refine stay ?_;unfold Mc.due;cases ev with
   | nil=>rfl
   | cons e r=>unfold Az8;rw[aN (.inl T)]
  | false=>
   simp only[Aa,Ad,Aw];rw[Ah lD (by kernel_rfl),Cy a.Dc rfl];simp only[Aa,a.Gt.Hz,Ad];cases ev with
   | nil=>
    simp only[eT,Nw,Ka,Aa,Ad];exact stay rfl
   | cons e r=>
    have we:=s.wf.wf e (aV ..);have el:=Lq.len we;have gq:=a.Gt.block (Nat.succ_pos _);have lq:=hb _ _ gq;have c0:Mh (((e::r).map Lq.cells).flatten) 0 68=some e.cells:=by
     show Mh (e.cells++_) 0 68=_;rw[Fc (by rw[aF,el];omega),dA,<-el,dI]
    have ah:(((e::r).map Lq.cells).flatten)[0]? = some (I e.N8):=rfl;rw[aP (show(0:Int)<((e::r).length:Int) by rw[bH];omega)];simp only[Nw,Aa,Ad,Aw];rw[Ah lD (by kernel_rfl),Cy a.Dc rfl]
    try simp only[Aa,Aw]
    rw[show ∀k:EV->R,X8 68 cs (.int .i64 0) k=k (.ptr qc (0*68))from fun k=>a.Gt.ix (Nat.succ_pos _) .i64 k]
    try simp only[Aa,Aw]
    rw[Ah lq (by kernel_rfl),Aj gq rfl ah]
    try simp only[Aa,Aw]
    rw[Ah lD (by kernel_rfl),Cy a.Dc rfl]
    try simp only[Aa,Aw]
    have ai:Q9 K (.ptr V 0) h.lift=some (I dv.cnt,h.lift):=by
     simp only[Q9,Aa,Cy b.lift.dev rfl]
    rw[Ji (by kernel_rfl) (by kernel_rfl) ai];simp only[I,Ad];by_cases B:e.N8<=dv.cnt
    ·rw[aP B]
     simp only[Ka,Aa,Agj,Cy a.Dc rfl];rw[show ∀k:EV->R,X8 68 cs (.int .i64 0) k=k (.ptr qc (0*68))from fun k=>a.Gt.ix (Nat.succ_pos _) .i64 k];rw[Dj gq rfl c0]
     try simp only[Aa]
     have aj:(List.replicate 4 (EV.int .i64 0)++List.replicate 64 (EV.int .u8 0)).length=68:=by simp
     refine Ok.st e.cells (Ac _ _) rfl (by show F9 e.cells=68;rw[Bf,el]) (Bm (by rw[aj];exact el.symm)) ?_;have E:Ext h ((h.new (.cells (List.replicate 4 (EV.int .i64 0)++List.replicate 64 (EV.int .u8 0)) 32)).put h.next (.cells e.cells 32)):=(Ar.new h _:Ext _ _).Ak (.inr (aC _)) (aE _) _;have g2:((h.new (.cells (List.replicate 4 (EV.int .i64 0)++List.replicate 64 (EV.int .u8 0)) 32)).put h.next (.cells e.cells 32)).get h.next=some (.cells e.cells 32):=Ae _ _ _
     generalize (h.new (.cells (List.replicate 4 (EV.int .i64 0)++List.replicate 64 (EV.int .u8 0)) 32)).put h.next (.cells e.cells 32)=H at E g2⊢
     have f:=E.hb hb;have s1:=s.ext E;have o:=a.frame E.next fun i t=>E.get i (s.lt i t) id
     have al:=o.Gt.block (Nat.succ_pos _);have ao:=o.Gt.slice (Nat.succ_pos _);subst ao;simp only[Aa,Cy o.Dc rfl];have aq:=s.wf.ev;refine A2e (K:=K) s.wf.wf (by simp only[bH]at aq;omega) al f ?_;intro v h2 q' r2 u J;have L:=u.hb f;have s2:=s1.ext u;have a2:=o.frame u.next fun i t=>u.get i (s1.lt i t) id
     have g2:=u.at f g2
     try simp only[Aa]
     have U:=L _ _ a2.Dc;refine Ok.Zl a2.Dc r2.plain.1 r2.plain.2 (by show 1<4;decide) ?_;simp only[List.set];have W:(h2.put D (.cells [EV.ptr V 0,v,hs,.map M] 149)).get D=some (.cells [EV.ptr V 0,v,hs,.map M] 149):=Ae _ _ _;have k3:∀i,i≠D->(h2.put D (.cells [EV.ptr V 0,v,hs,.map M] 149)).get i=h2.get i:=fun i t=>Af _ (cN t)
     have X:HB (h2.put D (.cells [EV.ptr V 0,v,hs,.map M] 149)):=L.put U _;have c3:Ar G h2 (h2.put D (.cells [EV.ptr V 0,v,hs,.map M] 149)):=(Ar.refl h2).Ak (.inl a.sub.2.1) U _;have n3:(h2.put D (.cells [EV.ptr V 0,v,hs,.map M] 149)).next=h2.next:=rfl
     generalize h2.put D (.cells [EV.ptr V 0,v,hs,.map M] 149)=C at W k3 X c3 n3⊢;have nD:h.next≠D:=by omega
     have g3:C.get h.next=some (.cells e.cells 32):=by rw[k3 _ nD];exact g2
     have rb:0<r.length->q'<h2.next:=fun y=>L _ _ (r2.block y)
     have a3:Aeh C D V M q' qh v hs ms ⟨dv,r,P8⟩ F (Bh G H C):=by
      have au:H.next<=C.next:=by rw[n3];exact u.next
      have Y:∀i,i<H.next->i≠D->C.get i=H.get i:=fun i t aw=>by rw[k3 i aw,u.get i t id]
      refine o.own f W (r2.frame fun y=>k3 _ (by have:=J y;have:=f _ _ o.Dc;omega)) (o.An7.frame fun y=>Y _ (f _ _ (o.An7.block y)) (Be (o.An7.block y) o.Dc (by simp))) au (fun i t H _ _=>Y i t H) s1.lt
       (fun y=>.inl ⟨J y,by rw[n3];exact rb y⟩) (fun y=>.inr ⟨rfl,y⟩) fun y z=>?_
      have:=J y;have:=f _ _ (o.An7.block z);omega
     have ax:Ar G h C:=((Ext.to E).trans (Ext.to u)).trans c3;have s3:F0 C D ⟨dv,r,P8⟩ (Bh G H C):=by
      refine⟨Bh.lt s1.lt (by rw[n3];exact u.next),⟨?_,fun x hx=>s.wf.wf x (aT _ hx),s.wf.Z1⟩,V,M,q',qh,v,hs,ms,F,a3⟩;have:=s.wf.ev;simp only[bH]at this⊢;omega
     rw[Dj g3 rfl (Am el)];refine(Bcq (K:=K) A hK (by omega) s3 X we (by have:=s.wf.ev;simp only[bH]at this⊢;omega)).Ap ?_;rintro _ h4 ⟨s4,c4,ay⟩;have aa:(Mc.mk dv (e::r) P8).due=(Mc.mk (dv.Sx e) r (P8++[e])).due:=by
      unfold Mc.due
      conv=>lhs;unfold Az8
      rw[aK (by rw[T];rintro(y|y);exact absurd y (by simp);exact y B)]
     rw[aa];refine(ih ⟨dv.Sx e,r,P8++[e]⟩ h4 _ (by simp only[bH]at hm⊢;omega) s4 ay).mono ?_;rintro _ h5 ⟨s5,c5,az⟩;have t1:=E.next
     have t2:=u.next
     have t4:=c4.next
     have t5:=c5.next
     have a6:Ar G h h4:=ax.then c4 fun j hj hl=>by
      rcases hj with y|y
      ·exact y
      ·omega
     have ab:Ar G h h5:=a6.then c5 fun j hj hl=>by
      rcases hj with(y|y)|y
      ·exact y
      ·omega
      ·omega
     refine⟨s5.mono (fun i t=>?_) (Bh.lt s.lt ab.next),ab,az⟩;rcases t with((y|y)|y)|y
     ·exact .inl y
     ·exact .inr ⟨by omega,by omega⟩
     ·exact .inr ⟨by omega,by omega⟩
     ·exact .inr ⟨by omega,y.2⟩
    ·rw[aQ B]
     simp only[Ka,Aa];refine stay ?_;unfold Mc.due Az8;rw[aN (.inr B)]
theorem A2t(A:Ca disp)(hK:1000<K)(S:Mc):∀d,12<=d->Bna disp K d S:=by
 intro d hd h D G s hb;obtain⟨e,rfl⟩:∃k,d=k+1:=⟨d-1,by omega⟩;rw[Aq7 A (by omega)];exact Bgn (K:=K) A hK (by omega) K S h G (by have:=s.wf.ev;omega) s hb
section
def Out(F:Nat->Prop)(h:Ab):Nat->Prop:=fun i=>i<h.next/\¬F i
abbrev Kf(F:Nat->Prop):Ab->Ab->Prop:=Ar fun i=>¬F i
theorem Ar.kf(c:Ar (Out F h) h h'):Kf F h h':=c.mono fun _ y=>y.2
theorem Ext.kf(c:Ext h h'):Kf F h h':=Ext.to c
theorem Kf.less(c:Kf F h h')(s:∀i,F' i->F i):Kf F' h h':=c.mono fun i y z=>y (s i z)
theorem Kf.at(c:Kf F h h')(hb:HB h){o:Dz}(g:h.get i=some o)(a:F i):h'.get i=some o:=Ar.at c hb g fun y=>y a
theorem Ext.Arq{a h2:Ab}(x:Ext h a)(c:Kf (Bh F h a) a h2):Kf F h h2:=by
 refine(Ext.to (S:=fun i=>¬F i) x).then c fun i y f z=>y (.inl z)
theorem Rw.frame{H:Nat->Prop}(s:Rw h m S H)(n:h.next<=h'.next)(e:∀i,H i->h'.get i=h.get i):Rw h' m S H:=by
 obtain⟨lt,D,p,bl,ql,np,q,c,G,a⟩:=s;obtain⟨t1,t2,t3,t4,t5,t6⟩:=a.sub;have k:∀i o,h.get i=some o->H i->h'.get i=some o:=fun i o g f=>by rw[e i f];exact g
 exact⟨fun i f=>aL (lt i f) n,D,p,bl,ql,np,q,c,G,⟨k _ _ a.Iv.Iv t2,k _ _ a.Iv.Axd t3⟩,
  ⟨a.Gw.pos,k _ _ a.Gw.Gw t4,k _ _ a.Gw.row t5,fun d hd=>k _ _ (a.Gw.que d hd) (t6 d hd).1,fun d hd=>k _ _ (a.Gw.chan d hd) (t6 d hd).2,a.Gw.inj⟩,
  a.psz,a.drv.frame n fun i f=>e i (t1 i f),a.apart,a.sub⟩
structure Mi.Wp(S:Mi):Prop where
 sm:Sm S.g
 ps:∀d,d<S.g.D.toNat->∀x∈S.ps d,Ej S.g x=d/\¬S.bad x.toNat=1
structure Mi.Wf(S:Mi):Prop extends S.Wp where
 op:(S.a = -1/\S.b = -1)\/((0<=Ej S.g S.a/\¬S.bad S.a.toNat=1)/\(0<=Ej S.g S.b/\¬S.bad S.b.toNat=1))
theorem Aj5(s:Sm g){z:Int}(h:0<=Ej g z):Tk z:=by
 have f:=s.d1;have h2:=s.z1;have k:=s.d0;have h4:=s.z0;rcases Ag6 s z with y|⟨_,_,_,o,q⟩
 ·omega
 ·obtain⟨t,u⟩:=N1 (a:=g.D) (b:=g.Z) (A:=8) (B:=64) (by omega) (by omega) (by omega) (by omega)
  exact⟨by omega,by omega⟩
theorem As8(s:Sm g){z:Int}(h:0<=Ej g z):0<=z:=by
 rcases Ag6 s z with y|⟨_,_,_,a,f⟩<;>omega
theorem Mi.Wf.rng(w:S.Wf):Tk S.a/\Tk S.b:=by
 rcases w.op with⟨f,h2⟩|⟨f,h2⟩
 ·rw[f,h2];exact⟨⟨by omega,by omega⟩,⟨by omega,by omega⟩⟩
 ·exact⟨Aj5 w.sm f.1,Aj5 w.sm h2.1⟩
theorem A1o(w:∀d,d<g.D.toNat->∀x∈ps d,Ej g x=d/\P x)(n:Nat)(z:Int)(f:0<=Ej g z->P z):∀d,d<g.D.toNat->∀x∈(Aq2 g n ps z).2 d,Ej g x=d/\P x:=by
 intro d hd x a;unfold Aq2 at a;split at a
 ·exact w d hd x a
 ·rename_i h0
  split at a
  ·exact w d hd x a
  ·split at a
   ·simp only[upd]at a
    split at a
    ·rename_i e
     subst e;rcases bL.1 a with a|a
     ·exact w _ hd x a
     ·rw[aO.1 a];exact⟨by omega,f (by omega)⟩
    ·exact w d hd x a
   ·exact w d hd x a
theorem A33(S:Mi)(z u:Int):(S.leave z u).1.g=S.g/\(S.leave z u).1.a=S.a/\(S.leave z u).1.b=S.b/\(S.leave z u).1.u=S.u/\(S.leave z u).1.bad=S.bad:=by
 unfold Mi.leave;split
 ·exact⟨rfl,rfl,rfl,rfl,rfl⟩
 ·split<;>exact⟨rfl,rfl,rfl,rfl,rfl⟩
theorem Mi.Wp.leave(w:S.Wp)(z u:Int):(S.leave z u).1.Wp:=by
 unfold Mi.leave;split
 ·exact w
 ·rename_i h0
  split
  ·refine⟨w.sm,A1o w.ps _ _ fun a y=>h0 (.inr (.inl ?_))⟩
   unfold Mi.I7;rw[aP a,aP y];rfl
  ·exact⟨w.sm,w.ps⟩
theorem A2v(S:Mi):S.close.1.g=S.g/\S.close.1.a = -1/\S.close.1.b = -1/\S.close.1.u=0/\S.close.1.bad=S.bad:=by
 unfold Mi.close;obtain⟨f,k,a3,a4,a5⟩:=A33 { S with a:=-1,b:=-1,u:=0 } S.a S.u;obtain⟨b1,b2,b3,b4,o⟩:=A33 (({ S with a:=-1,b:=-1,u:=0 }:Mi).leave S.a S.u).1 S.b S.u;exact⟨b1.trans f,b2.trans k,b3.trans a3,b4.trans a4,o.trans a5⟩
theorem Mi.Wp.close(w:S.Wp):S.close.1.Wf:=by
 have:({ S with a:=-1,b:=-1,u:=0 }:Mi).Wp:=⟨w.sm,w.ps⟩;obtain⟨k,f,a3,a4,a5⟩:=A2v S;exact { toWp:=(this.leave _ _).leave _ _,op:=.inl ⟨f,a3⟩ }
theorem Mi.Wp.mark(w:S.Wp){z:Int}(o:0<=Ej S.g z):(S.mark z).Wp:=by
 refine⟨w.sm,fun d hd x a=>?_⟩;have a:x∈S.dropped z d:=a;unfold Mi.dropped at a;rw[aK (by omega)]at a;have key:∀x,Ej S.g x=d/\¬S.bad x.toNat=1->¬x=z->Ej S.g x=d/\¬(S.mark z).bad x.toNat=1:=fun x a q=>by
  refine⟨a.1,?_⟩;show ¬(if x.toNat=z.toNat then(1:Int)else S.bad x.toNat)=1;have f:=As8 w.sm o;have h2:=As8 w.sm (z:=x) (by rw[a.1];omega);rw[aK (by omega)];exact a.2
 simp only[upd]at a;split at a
 ·rename_i e
  have h2:=(eD.1 a).2;have f:=w.ps d hd x (by rw[e];exact(eD.1 a).1);exact key x f (cP h2)
 ·rename_i k
  have f:=w.ps d hd x a;refine key x f fun y=>k ?_
  subst y;omega
theorem Mi.Wf.Bt(w:S.Wf)(z:Int):(S.Bt z).1.Wf:=by
 unfold Mi.Bt;split
 ·exact w
 ·rename_i a
  have a:0<=Ej S.g z:=by omega
  split
  ·exact w
  ·split
   ·rename_i f
    refine { toWp:=w.toWp.mark a,op:=?_ };rcases w.op with y|⟨o,q⟩
    ·exact .inl y
    ·have key:∀x,(0<=Ej S.g x/\¬S.bad x.toNat=1)->¬z=x->0<=Ej S.g x/\¬(S.mark z).bad x.toNat=1:=fun x k f=>by
      refine⟨k.1,?_⟩;show ¬(if x.toNat=z.toNat then(1:Int)else S.bad x.toNat)=1;have t:=As8 w.sm a;have h2:=As8 w.sm k.1;rw[aK (by omega)];exact k.2
     exact .inr ⟨key _ o f.1,key _ q f.2⟩
   ·exact(w.toWp.mark a).close
theorem A1d{k:Nat->List Int}{x y:Int}(w:∀d,d<g.D.toNat->∀x∈ps d,Ej g x=d/\P x)(h:Aus ps g.D.toNat=some (x,y,k)):
 ∃a b:Nat,a<g.D.toNat/\b<g.D.toNat/\a≠b/\ps a=x::k a/\ps b=y::k b/\(∀d,d≠a->d≠b->k d=ps d)/\Fx ps (-1) g.D.toNat=a/\Fx ps a g.D.toNat=b/\(Ej g x=a/\P x)/\(Ej g y=b/\P y):=by
 unfold Aus at h;split at h
 ·cases h
 ·rename_i H
  obtain⟨a,b,e1,e2,C,h2,E,h4,J⟩:=A19 H Aq5;rw[e1,e2]at h;injection h with h;injection h with o h;injection h with q f;simp only[bK]at o q f;obtain⟨L,r,u⟩:∃x r,ps a=x::r:=by cases v:ps a with|nil=>exact absurd v h4|cons x r=>exact⟨x,r,rfl⟩
  obtain⟨O,t,B⟩:∃x r,ps b=x::r:=by cases v:ps b with|nil=>exact absurd v J|cons x r=>exact⟨x,r,rfl⟩
  rw[u]at o f;rw[B]at q f;simp only[List.headD_cons,List.tail_cons]at o q f;subst o;subst q;subst f;refine⟨a,b,C,h2,E,?_,?_,fun d d1 d2=>?_,e1,e2,w a C _ (by rw[u];exact aV ..),w b h2 _ (by rw[B];exact aV ..)⟩
  ·rw[u];simp[upd,E]
  ·rw[B];simp[upd]
  ·simp[upd,d1,d2]
theorem Mi.Wf.ready(w:S.Wf):S.ready.1.Wf:=by
 unfold Mi.ready;split
 ·exact w
 ·split
  ·exact { toWp:=⟨w.sm,w.ps⟩,op:=w.op }
  ·cases o:Aus S.ps S.g.D.toNat with
   | none=>exact { toWp:=⟨w.sm,w.ps⟩,op:=w.op }
   | some t=>
    obtain⟨x,y,k⟩:=t;obtain⟨a,b,E,h2,H,q,u,v,_,_,B,C⟩:=A1d w.ps o;refine { toWp:=⟨w.sm,fun d hd z f=>?_⟩,op:=.inr ⟨⟨by show 0<=Ej S.g x;omega,B.2⟩,⟨by show 0<=Ej S.g y;omega,C.2⟩⟩ };have f:z∈k d:=f;refine w.ps d hd z ?_;by_cases d1:d=a
    ·subst d1;rw[q];exact aT _ f
    ·by_cases d2:d=b
     ·subst d2;rw[u];exact aT _ f
     ·rw[v d d1 d2]at f;exact f
structure Da(h:Ab)(m:Nat)(S:Mi)(F:Nat->Prop):Prop where
 s:Rw h m S (Out F h)
 lt:∀i,F i->i<h.next
 wf:S.Wf
section
variable{S':Mi}
theorem Da.made(M:Da h m S F)(s:Rw h' m S' (Bh (Out F h) h h'))(c:Ar (Out F h) h h')(w:S'.Wf):Da h' m S' F/\Kf F h h':=by
 refine⟨⟨s.mono (fun i a=>?_) fun i a=>a.1,fun i a=>aL (M.lt i a) c.next,w⟩,c.kf⟩;rcases a with a|a
 ·exact⟨aL a.1 c.next,a.2⟩
 ·exact⟨a.2,fun y=>by have:=M.lt i y;omega⟩
theorem Da.ext(M:Da h m S F)(hb:HB h)(x:Ext h h'):Da h' m S (Bh F h h'):=by
 refine⟨(M.s.ext hb x).mono (fun i a=>⟨aL a.1 x.next,fun y=>?_⟩) fun i a=>a.1,Bh.lt M.lt x.next,M.wf⟩;rcases y with y|y
 ·exact a.2 y
 ·have:=a.1;omega
theorem Da.less(M:Da h m S F)(s:∀i,F' i->F i):Da h m S F':=
 ⟨M.s.mono (fun i a=>⟨a.1,fun y=>a.2 (s i y)⟩) fun i a=>a.1,fun i a=>M.lt i (s i a),M.wf⟩
theorem Da.Ai3 {T:Nat->Prop}(M:Da h m S F)(c:Ar T h h')(t:∀i,T i->i<h.next->F i):Da h' m S F:=by
 refine⟨(M.s.frame c.next fun i a=>c.get i a.1 fun y=>a.2 (t i y a.1)).mono (fun i a=>⟨aL a.1 c.next,a.2⟩) fun i a=>a.1,fun i a=>aL (M.lt i a) c.next,M.wf⟩
theorem Da.same(M:Da h m S F)(sm:Aot h h'):Da h' m S F:=
 ⟨(M.s.frame (by rw[sm.next];exact aC _) fun i _=>sm.get i).mono (fun i a=>⟨by rw[sm.next];exact a.1,a.2⟩) fun i a=>a.1,fun i a=>by rw[sm.next];exact M.lt i a,M.wf⟩
end
section
variable (A:Ca disp)(hK:10000<K)(M:Da h m S F)(hb:HB h)
include A hK M hb
theorem Bo2(n:Nat):Aul disp K n:=fun T _ d hd=>A2t A (by omega) T d hd
theorem Bd6(hd:16<=d):Ok (Ag TT disp K d false 232 [.ptr m 0] h) fun v h'=>v=I S.ready.2/\Da h' m S.ready.1 F/\Kf F h h'/\HB h':=by
 refine(Axc A hK hd (Bo2 A hK M hb S.dr.ev.length) (aC _) M.s hb).mono ?_;rintro v h' ⟨e,s,c,a⟩;obtain⟨f,k⟩:=M.made s c M.wf.ready;exact⟨e,f,k,a⟩
theorem Xe(hd:18<=d){z:Int}(f:Tk z):Ok (Ag TT disp K d false 197 [.ptr m 0,I z] h) fun v h'=>v=I (S.Bt z).2/\Da h' m (S.Bt z).1 F/\Kf F h h'/\HB h':=by
 refine(Aoi A hK hd (Bo2 A hK M hb S.dr.ev.length) (aC _) M.s hb M.wf.rng.1 M.wf.rng.2 f).mono ?_;rintro v h' ⟨e,s,c,a⟩;obtain⟨o,k⟩:=M.made s c (M.wf.Bt z);exact⟨e,o,k,a⟩
end
end
theorem F0.lift{S:Mc}(d:F0 h D S G):F0 h.lift D S G:=d.frame (aC _) fun i _=>By h i
theorem F0.same {a h4:Ab}{S:Mc}(d:F0 a D S (Bh G h.lift a))(sm:Aot a h4):F0 h4 D S (Bh G h h4):=by
 refine(d.frame (h':=h4) (by rw[sm.next];exact aC _) fun j _=>sm.get j).mono (fun j hj=>?_) fun j hj=>?_
 ·rcases hj with y|y
  ·exact .inl y
  ·exact .inr ⟨y.1,by rw[sm.next];exact y.2⟩
 ·rw[sm.next]
  rcases hj with y|y
  ·exact d.lt _ (.inl y)
  ·rw[sm.next]at y;exact y.2
theorem Da.drv{p bl ql np:Nat}{q c:Nat->Nat}{dr:Mc}(M:Da h m S F)(hb:HB h)(a:Arj h m D p bl ql np q c S G (Out F h))(d:F0 h' D dr (Bh G h h'))(f:Ar G h h'):
 Da h' m { S with dr:=dr } F/\Kf F h h':=by
 have cH:=f.mono a.sub.1;exact M.made ⟨Bh.lt M.s.lt cH.next,D,p,bl,ql,np,q,c,_,a.A9v hb d f⟩ cH { toWp:=⟨M.wf.sm,M.wf.ps⟩,op:=M.wf.op }
noncomputable def Mi.put(S:Mi)(e:En)(An Br Av seq:Int):Mi × Int:=
 if ¬(J3 { e with Br:=Br } An S.u Av seq).2=0 then(S,(J3 { e with Br:=Br } An S.u Av seq).2)else
 ({ S with dr:=(S.dr.append An (Bc (Tc (J3 { e with Br:=Br } An S.u Av seq).1))).1 },
  if(S.dr.append An (Bc (Tc (J3 { e with Br:=Br } An S.u Av seq).1))).2.2=0/\¬(S.dr.append An (Bc (Tc (J3 { e with Br:=Br } An S.u Av seq).1))).2.1=S.u then 30 else(S.dr.append An (Bc (Tc (J3 { e with Br:=Br } An S.u Av seq).1))).2.2)
theorem Ar2:List.replicate 5 (EV.int .i64 0)++List.replicate 44 (EV.int .u8 0)=Fr.zero.cells:=by kernel_rfl
theorem Ba2(A:Ca disp)(hK:10000<K)(hd:16<=d)(M:Da h m S F)(hb:HB h){e:En}(w:e.Wf)(An Br Av seq:Int):
 Ok (Ag TT disp K d false 260 [.ptr m 0,.agg e.cells,I An,I Br,I Av,I seq] h) fun v h'=>v=I (S.put e An Br Av seq).2/\Da h' m (S.put e An Br Av seq).1 F/\Kf F h h'/\HB h':=by
 obtain⟨dd,rfl⟩:∃k,d=k+1:=⟨d-1,by omega⟩;rw[Amg A (by omega)];have w':({ e with Br:=Br }:En).Wf:=⟨w.len,w.u8⟩;have el:=En.Bk w;have W:=En.Bk w';obtain⟨_,D,p,bl,ql,np,q,c,G,a⟩:=M.s;simp only[Agb,Aa];refine Ok.Zl (Ac _ _) rfl rfl (by show 5<e.cells.length;omega) ?_;have x1:Ext h ((h.new (.cells e.cells 203)).put h.next (.cells (e.cells.set 5 (I Br)) 203)):=(Ar.new h _:Ext _ _).Ak (.inr (aC _)) (aE _) _;have U:((h.new (.cells e.cells 203)).put h.next (.cells (e.cells.set 5 (I Br)) 203)).get h.next=some (.cells (e.cells.set 5 (I Br)) 203):=Ae _ _ _
 generalize (h.new (.cells e.cells 203)).put h.next (.cells (e.cells.set 5 (I Br)) 203)=h1 at x1 U⊢
 have U:h1.get h.next=some (.cells ({ e with Br:=Br }:En).cells 203):=U
 unfold Mi.put;generalize ({ e with Br:=Br }:En)=e' at U w' W⊢;have B:=x1.hb hb;have l7:=B _ _ U;have m1:=a.Iv.ext fun i o g=>x1.at hb g
 have lm:=B _ _ m1.Iv;rw[Ah l7 (by kernel_rfl),C8 U rfl,Am W]
 try simp only[Aa,Aw]
 rw[Ah lm (by kernel_rfl),m1.ou]
 try simp only[Aw]
 refine Ok.Ds (by kernel_rfl) (by kernel_rfl) (Aft (K:=K) w' (Du B) hK An S.u Av seq) (fun _ _ p=>p.2) ?_;rintro _ bf h2 ⟨rfl,_⟩ _ x2;have ag:=x2.hb B;have X:=A1e w' An S.u Av seq;generalize Y:J3 e' An S.u Av seq=fe at X⊢;obtain⟨f,er⟩:=fe;have fl:=Fr.Bk X;have zl:=Fr.Bk Fr.G7;simp only[Aa,Ar2,Aw];rw[Kh (by kernel_rfl)];refine Ok.st f.cells (Ac _ _) rfl (by show F9 f.cells=49;rw[Bf,fl]) (Bm (by rw[zl];exact fl.symm)) ?_;have x3:Ext h2 ((h2.new (.cells Fr.zero.cells 247)).put h2.next (.cells f.cells 247)):=(Ar.new h2 _:Ext _ _).Ak (.inr (aC _)) (aE _) _;have H:((h2.new (.cells Fr.zero.cells 247)).put h2.next (.cells f.cells 247)).get h2.next=some (.cells f.cells 247):=Ae _ _ _
 generalize (h2.new (.cells Fr.zero.cells 247)).put h2.next (.cells f.cells 247)=h3 at x3 H⊢
 have t:=x3.hb ag;have C:Ext h h3:=(x1.trans x2).trans x3;simp only[I,Ad];by_cases he:er=0
 ·subst he
  simp only[aD,aA,Aa,aY,Abl];obtain⟨hf,aj,_,_⟩:=A29 w' (An:=An) (off:=S.u) (Av:=Av) (seq:=seq) (by rw[Y]);rw[Y]at hf;have hf:f=_:=hf;have al:frB f=true:=by rw[hf];exact aj
  have m3:=a.Iv.ext fun i o g=>C.at hb g
  have aq:=t _ _ m3.Iv;have au:=t _ _ H
  try simp only[Aw]
  rw[Ah aq (by kernel_rfl),m3.table]
  try simp only[Aa,Aw]
  rw[Ah au (by kernel_rfl),C8 H rfl,Am fl]
  try simp only[Aa,Aw]
  refine Ok.Ds (by kernel_rfl) (by kernel_rfl) (Alw (K:=K) X al (Du t) hK) (fun _ _ p=>p.2) ?_;rintro _ bn h4 ⟨rfl,_⟩ _ x4;have aw:=x4.hb t;have ul:(Bc (Tc f)).length=64:=by rw[Bi,As3 X]
  try simp only[Aa,Aw]
  rw[Kh (by kernel_rfl)];refine Ok.st (Bc (Tc f)) (Ac _ _) rfl (by show F9 (Bc (Tc f))=64;rw[Bf,ul]) (Bm (by rw[bT];exact ul.symm)) ?_;have x5:Ext h4 ((h4.new (.cells (List.replicate 64 (EV.int .u8 0)) 30)).put h4.next (.cells (Bc (Tc f)) 30)):=(Ar.new h4 _:Ext _ _).Ak (.inr (aC _)) (aE _) _;have J:((h4.new (.cells (List.replicate 64 (EV.int .u8 0)) 30)).put h4.next (.cells (Bc (Tc f)) 30)).get h4.next=some (.cells (Bc (Tc f)) 30):=Ae _ _ _
  generalize (h4.new (.cells (List.replicate 64 (EV.int .u8 0)) 30)).put h4.next (.cells (Bc (Tc f)) 30)=h5 at x5 J⊢
  have E:=x5.hb aw;have aa:Ext h h5:=(C.trans x4).trans x5;have M5:=M.ext hb aa;clear m3 m1 a;obtain⟨_,D,p,bl,ql,np,q,c,G,a⟩:=M5.s;have ay:=E _ _ a.Iv.Iv;have az:=E _ _ J;simp only[Abu,Aa,Ad,I,aD,aA,Aw];rw[Ah ay (by kernel_rfl),a.Iv.Dc]
  try simp only[Aa,Aw]
  rw[Ah az (by kernel_rfl),C8 J rfl,Am ul]
  try simp only[Aa,Aw]
  refine Ok.Yh (S:=G) (by kernel_rfl) (by kernel_rfl) (fun _=>by kernel_rfl) (Aqr (K:=K) A (by omega) (d:=dd) (by omega) (fun k hk=>A2t A (by omega) S.dr k hk) a.drv.lift (Du E) An ul ⟨_,Bbp X,rfl⟩) (fun _ _ p=>p.2.2.1) ?_;rintro _ h6 h7 s' ⟨rfl,d6,_,a1⟩ sm c7 _;have L:=sm.hb a1;obtain⟨O,k7⟩:=M5.drv E a (d6.same sm) c7;have T:Kf F h h7:=aa.Arq k7;have O:=O.less fun i (hi:F i)=>Or.inl hi
  generalize S.dr.append An (Bc (Tc f))=ap at O⊢;obtain⟨dr,off,er⟩:=ap;obtain⟨_,D,p,bl,ql,np,q,c,G,a⟩:=O.s;simp only[Aa,I,Ad];by_cases h0:er=0
  ·simp only[h0,aB,Aa,a.Iv.ou,I,Ad,fS]
   by_cases h1:off=S.u
   ·simp only[h1,aD,aA,Aa,M0,Ni,aY]
    exact .ret ⟨rfl,O,T,L⟩
   ·simp only[h1,aG,aB,Aa,M0,Ni,bG]
    exact .ret ⟨rfl,O,T,L⟩
  ·simp only[h0,aA,Aa,M0,Ni,fR,aY]
   exact .ret ⟨rfl,O,T,L⟩
 ·simp only[he,aG,aB,Aa,bG]
  exact .ret ⟨rfl,(M.ext hb C).less fun i (hi:F i)=>Or.inl hi,C.kf,t⟩
theorem Mi.Wf.put(w:S.Wf)(e:En)(An Br Av seq:Int):(S.put e An Br Av seq).1.Wf:=by
 unfold Mi.put;split
 ·exact w
 ·exact { toWp:=⟨w.sm,w.ps⟩,op:=w.op }
noncomputable def Mi.both(S:Mi)(e:En)(Av seq:Int):Mi × Int × Int:=
 if ¬(S.put e S.a S.b Av seq).2=0 then((S.put e S.a S.b Av seq).1,S.a,(S.put e S.a S.b Av seq).2)else
 (((S.put e S.a S.b Av seq).1.put e S.b S.a Av seq).1,S.b,((S.put e S.a S.b Av seq).1.put e S.b S.a Av seq).2)
theorem Bhx(A:Ca disp)(hK:10000<K)(hd:17<=d)(M:Da h m S F)(hb:HB h){e:En}(w:e.Wf)(Av seq:Int):
 Ok (Ag TT disp K d false 233 [.ptr m 0,.agg e.cells,I Av,I seq] h) fun v h'=>v=.tuple [I (S.both e Av seq).2.1,I (S.both e Av seq).2.2]/\Da h' m (S.both e Av seq).1 F/\Kf F h h'/\HB h':=by
 obtain⟨dd,rfl⟩:∃k,d=k+1:=⟨d-1,by omega⟩;rw[Akc A (by omega)];have el:=En.Bk w;simp only[Ae3,Aa];have B:Ext h (h.new (.cells e.cells 203)):=Ar.new _ _;have f:(h.new (.cells e.cells 203)).get h.next=some (.cells e.cells 203):=Ac _ _
 have L:(h.new (.cells e.cells 203)).next=h.next+1:=rfl
 generalize h.new (.cells e.cells 203)=U at B f L⊢;have o:=B.hb hb;have H:=M.ext hb B;obtain⟨_,D,p,bl,ql,np,q,c,G,a⟩:=H.s;rw[a.Iv.oa]
 try simp only[Aa]
 rw[a.Iv.ob,C8 f rfl,Am el]
 try simp only[Aa]
 refine(Ba2 A hK (by omega) H o w S.a S.b Av seq).Ap ?_;rintro _ h2 ⟨rfl,M2,J,t⟩;have u:Kf F h h2:=B.Arq J;have f:=J.at o f (.inr ⟨aC _,by omega⟩);unfold Mi.both;simp only[I,Ad];by_cases h0:(S.put e S.a S.b Av seq).2=0
 ·simp only[h0,aD,aA,Aa,aY,Yr]
  rw[C8 f rfl,Am el]
  try simp only[Aa]
  have M2:=M2.less fun i (C:F i)=>Or.inl C
  refine(Ba2 A hK (by omega) M2 t w S.b S.a Av seq).Ap ?_;rintro _ W ⟨rfl,O,T,E⟩;exact .ret ⟨rfl,O,u.trans T,E⟩
 ·simp only[h0,aG,aB,Aa,bG]
  exact .ret ⟨rfl,M2.less fun i (C:F i)=>Or.inl C,u,t⟩
theorem Mi.Wf.both(w:S.Wf)(e:En)(Av seq:Int):(S.both e Av seq).1.Wf:=by
 unfold Mi.both;split
 ·exact w.put ..
 ·exact(w.put ..).put ..
theorem Bdl(D:Nat)(g:Gm)(p bl n:Nat)(a b u f:Int):(Aa7 D g p bl n a b u).set 267 (I f)=Aa7 D g p bl n a b f:=by
 unfold Aa7;have k:([EV.ptr D 0]++gL g++Ba).length=263:=by rw[aF,Rj];rfl
 rw[eH _ _ (by omega),k];rfl
noncomputable def Mi.Auv(S:Mi):Mi:={ S with u:=Cx .i64 (S.u+1) }
theorem Mi.Wf.Auv(w:S.Wf):S.Auv.Wf:={ toWp:=⟨w.sm,w.ps⟩,op:=w.op }
theorem A1j(M:Da h m S F)(hb:HB h){kk:Ab->R}(o:∀h',Da h' m S.Auv F->Kf F h h'->HB h'->Ext h h'\/True->h'.next=h.next->(∀i,F i->h'.get i=h.get i)->Ok (kk h') Q):
 Ok (Dr (.ptr m 267) h fun v=>Kv Az0 (bin TT .add 3) v (.int .i64 1) fun w=>stE 1 (.ptr m 267) w h kk) Q:=by
 obtain⟨lt,D,p,bl,ql,np,q,c,G,a⟩:=M.s;rw[a.Iv.ou];simp only[I,Ad];have ml:=Aza D S.g p bl (S.g.D*S.g.Z).toNat S.a S.b S.u;have lm:=hb _ _ a.Iv.Iv;refine Ok.Zl a.Iv.Iv rfl rfl (by omega) ?_;rw[show EV.int .i64 (Cx .i64 (S.u+1))=I (Cx .i64 (S.u+1))from rfl,Bdl];have c1:Ar (fun i=>i=m) h (h.put m (.cells (Aa7 D S.g p bl (S.g.D*S.g.Z).toNat S.a S.b (Cx .i64 (S.u+1))) 132)):=(Ar.refl (S:=fun i=>i=m) h).Ak (.inl rfl) lm _;have t:=a.A2s hb (Ae _ _ _) c1;have k:∀i,F i->i≠m:=fun i f y=>by subst y;exact a.sub.2.1.2 f
 refine o _ ⟨⟨fun i f=>f.1,D,p,bl,ql,np,q,c,G,?_⟩,fun i f=>M.lt i f,M.wf.Auv⟩ (c1.mono fun i f y=>k i y f) (hb.put lm _) (.inr trivial) rfl (fun i f=>Af _ (cN (k i f)));exact t
noncomputable def Mi.Lj(B:Mi × Int × Int):Mi:=if B.2.1=B.1.b then B.1.Auv else B.1
def Me.zero:Me:=⟨0,0,0,0,0,0⟩
noncomputable def Mi.Qv(e:En)(Av seq:Int):Nat->Mi->Mi × Me × Int
 | 0,S=>(S,Me.zero,0)
 | n+1,S=>
  if ¬S.ready.2=0 then(S.ready.1,Me.zero,S.ready.2)else
  if(S.ready.1.both e Av seq).2.2=0 then((S.ready.1.both e Av seq).1.Auv,⟨1,(S.ready.1.both e Av seq).1.a,(S.ready.1.both e Av seq).1.b,(S.ready.1.both e Av seq).1.u,seq,F4 e.bytes⟩,0)else
  if(S.ready.1.both e Av seq).2.2=34 then((S.ready.1.both e Av seq).1,Me.zero,34)else
  if((Mi.Lj (S.ready.1.both e Av seq)).Bt (S.ready.1.both e Av seq).2.1).2=34 then(((Mi.Lj (S.ready.1.both e Av seq)).Bt (S.ready.1.both e Av seq).2.1).1,Me.zero,34)else
  Qv e Av seq n ((Mi.Lj (S.ready.1.both e Av seq)).Bt (S.ready.1.both e Av seq).2.1).1
noncomputable def Mi.place(S:Mi)(e:En)(Av seq:Int):Mi × Me × Int:=
 if ¬(J3 e 0 0 Av seq).2=0 then(S,Me.zero,(J3 e 0 0 Av seq).2)else Mi.Qv e Av seq 1000 S
noncomputable def Al0(bad:Nat->Int)(n:Nat):Nat:=((List.range n).filter fun i=>¬bad i=1).length
theorem A5r(bad:Nat->Int)(n:Nat):Al0 bad n<=n:=by
 unfold Al0;have:=eG (fun i=>decide (¬bad i=1)) (List.range n);simpa using this
theorem A8m(bad:Nat->Int){z:Nat}(k:z<n)(hb:¬bad z=1):Al0 (fun i=>if i=z then 1 else bad i) n<Al0 bad n:=by
 unfold Al0;induction n with
 | zero=>omega
 | succ n a=>
  rw[cz,eF,eF,aF,aF];by_cases h:z=n
  ·subst h
   have e1:((List.range z).filter fun i=>decide (¬(if i=z then(1:Int)else bad i)=1))=(List.range z).filter fun i=>decide (¬bad i=1):=by
    refine List.filter_congr fun i f=>?_
    have:=eO.1 f;rw[aK (by omega)]
   have e2:([z].filter fun i=>decide (¬(if i=z then(1:Int)else bad i)=1)) = []:=by simp
   have e3:([z].filter fun i=>decide (¬bad i=1)) = [z]:=by simp[hb]
   rw[e1,e2,e3];simp
  ·have:=a (by omega)
   have e2:([n].filter fun i=>decide (¬(if i=z then(1:Int)else bad i)=1)) = [n].filter fun i=>decide (¬bad i=1):=by
    have:¬n=z:=fun y=>h y.symm
    rw[eh,eh];simp[this]
   rw[e2];omega
theorem Bcc(S:Mi):S.ready.1.g=S.g/\S.ready.1.bad=S.bad:=by
 unfold Mi.ready;split
 ·exact⟨rfl,rfl⟩
 ·split
  ·exact⟨rfl,rfl⟩
  ·split<;>exact⟨rfl,rfl⟩
theorem Bjy(S:Mi)(e:En)(An Br Av seq:Int):(S.put e An Br Av seq).1.g=S.g/\(S.put e An Br Av seq).1.bad=S.bad/\(S.put e An Br Av seq).1.a=S.a/\(S.put e An Br Av seq).1.b=S.b/\(S.put e An Br Av seq).1.u=S.u/\(S.put e An Br Av seq).1.ps=S.ps:=by
 unfold Mi.put;split<;>exact⟨rfl,rfl,rfl,rfl,rfl,rfl⟩
theorem Boq(S:Mi)(e:En)(Av seq:Int):(S.both e Av seq).1.g=S.g/\(S.both e Av seq).1.bad=S.bad/\(S.both e Av seq).1.a=S.a/\(S.both e Av seq).1.b=S.b/\(S.both e Av seq).1.u=S.u/\(S.both e Av seq).1.ps=S.ps /\
 ((S.both e Av seq).2.1=S.a\/(S.both e Av seq).2.1=S.b):=by
 unfold Mi.both;obtain⟨f,k,a3,a4,a5,o⟩:=Bjy S e S.a S.b Av seq;obtain⟨b1,b2,b3,b4,q,t⟩:=Bjy (S.put e S.a S.b Av seq).1 e S.b S.a Av seq;split
 ·exact⟨f,k,a3,a4,a5,o,.inl rfl⟩
 ·exact⟨b1.trans f,b2.trans k,b3.trans a3,b4.trans a4,q.trans a5,t.trans o,.inr rfl⟩
theorem Bld(B:Mi × Int × Int):(Mi.Lj B).g=B.1.g/\(Mi.Lj B).bad=B.1.bad/\(Mi.Lj B).a=B.1.a/\(Mi.Lj B).b=B.1.b:=by
 unfold Mi.Lj;split<;>exact⟨rfl,rfl,rfl,rfl⟩
theorem A2d(S:Mi)(z:Int):(S.Bt z).1.g=S.g:=by
 unfold Mi.Bt;split
 ·rfl
 ·split
  ·rfl
  ·split
   ·rfl
   ·exact(A2v _).1
theorem Amd(w:S.Wf){z:Int}(f:0<=Ej S.g z)(hb:¬S.bad z.toNat=1):Al0 (S.Bt z).1.bad (S.g.D*S.g.Z).toNat<Al0 S.bad (S.g.D*S.g.Z).toNat:=by
 have a:(S.Bt z).1.bad=fun i=>if i=z.toNat then 1 else S.bad i:=by
  unfold Mi.Bt;rw[aK (by omega),aK (by unfold Mi.I7;rw[aQ hb,cn];simp)];split
  ·rfl
  ·exact(A2v _).2.2.2.2
 rw[a];refine A8m S.bad ?_ hb;rcases Ag6 w.sm z with y|⟨_,_,_,k,o⟩<;>omega
theorem A9j(w:S.Wf)(h:S.ready.2=0):(0<=Ej S.ready.1.g S.ready.1.a/\¬S.ready.1.bad S.ready.1.a.toNat=1)/\(0<=Ej S.ready.1.g S.ready.1.b/\¬S.ready.1.bad S.ready.1.b.toNat=1):=by
 rcases w.ready.op with⟨y,_⟩|y
 ·exfalso
  revert h y;unfold Mi.ready;split
  ·rename_i h0;intro _ y;exact h0.1 y
  ·split
   ·rename_i k;intro y _;exact k y
   ·cases o:Aus S.ps S.g.D.toNat with
    | none=>intro y _;simp at y
    | some t=>
     obtain⟨x,y,q⟩:=t;obtain⟨a,b,_,_,_,_,_,_,_,_,u,_⟩:=A1d w.ps o;intro _ f;have f:x = -1:=f;have:=As8 w.sm (z:=x) (by rw[u.1];omega);omega
 ·exact y
theorem A0l:TT.size 53=some 6/\TT.agg 53=some true:=⟨by kernel_rfl,by kernel_rfl⟩
theorem A95(A:Ca disp)(hK:10000<K)(hd:19<=d){e:En}(w:e.Wf)(Av seq:Int){X C:Nat}:∀(n f:Nat) (h:Ab) (S:Mi) (F:Nat->Prop),Al0 S.bad (S.g.D*S.g.Z).toNat<n->n<=f->Da h m S F->HB h->F X->F C->X≠C ->
 h.get X=some (.cells e.cells 203)->h.get C=some (.cells Me.zero.cells 53) ->
 Ok (Gp (Ag TT disp K d false) (Ag TT disp K d true) K f (.ptr m 0) (I Av) (I seq) (.ptr X 0) (.ptr C 0) h) fun v h'=>v=.tuple [.agg (Mi.Qv e Av seq n S).2.1.cells,I (Mi.Qv e Av seq n S).2.2]/\Da h' m (Mi.Qv e Av seq n S).1 (fun i=>F i/\¬i=C)/\Kf (fun i=>F i/\¬i=C) h h'/\HB h':=by
 intro n;induction n with
 | zero=>intro f h S F hg;omega
 | succ n ih=>
  intro f h S F hg hf M hb f5 f8 az g5 g8;obtain⟨f,rfl⟩:∃k,f=k+1:=⟨f-1,by omega⟩;have el:=En.Bk w;have sub:∀i,(F i/\¬i=C)->F i:=fun i hi=>hi.1
  have fin:∀(me:Me) (o:Int) (J:Ab) (S5:Mi),Da J m S5 F->Kf F h J->HB J->(S5,me,o)=Mi.Qv e Av seq (n+1) S ->
   Ok (stE 6 (.ptr C 0) (.agg me.cells) J fun h=>I9 TT [.c (.ptr C 0) 53,.v (I o)] h) fun v h'=>v=.tuple [.agg (Mi.Qv e Av seq (n+1) S).2.1.cells,I (Mi.Qv e Av seq (n+1) S).2.2]/\Da h' m (Mi.Qv e Av seq (n+1) S).1 (fun i=>F i/\¬i=C)/\Kf (fun i=>F i/\¬i=C) h h'/\HB h':=by
   intro me o J S5 M5 k5 H he;have ai:=k5.at hb g8 f8;have l8:=H _ _ ai;refine Ok.st me.cells ai rfl rfl (Bm rfl) ?_;rw[Fu (Ae _ _ _) A0l.1 A0l.2 rfl,<-he];have c8:Ar (fun i=>i=C) J (J.put C (.cells me.cells 53)):=(Ar.refl (S:=fun i=>i=C) J).Ak (.inl rfl) l8 _;exact .ret ⟨rfl,(M5.Ai3 c8 fun i hi _=>hi▸f8).less sub,(k5.less sub).trans (c8.mono fun i hi y=>y.2 hi),H.put l8 _⟩
  unfold Mi.Qv at fin⊢;simp only[Gp,dr];refine(Bd6 A hK M hb (by omega)).Ap ?_;rintro _ h1 ⟨rfl,M1,k1,aj⟩;simp only[I,Ad];by_cases hr:S.ready.2=0
  ·rw[aK (show ¬¬S.ready.2=0 from fun y=>y hr)]at fin⊢
   have op:=A9j M.wf hr;have ao:=(Bcc S);simp only[hr,aD,aA,Aa,X4];have a6:=k1.at hb g5 f5;rw[C8 a6 rfl,Am el]
   try simp only[Aa]
   refine(Bhx A hK (by omega) M1 aj w Av seq).Ap ?_;rintro _ h2 ⟨rfl,M2,k2,E⟩;have L:Kf F h h2:=k1.trans k2;have O:=Boq S.ready.1 e Av seq;generalize hB:S.ready.1.both e Av seq=B at M2 fin O⊢;obtain⟨T,z,o⟩:=B;simp only at M2 fin O⊢;have cf:z≠z->False:=fun y=>y rfl
   simp only[Aa,I,Ad];by_cases h0:o=0
   ·rw[aN h0]at fin⊢
    simp only[h0,aB,Aa,Aw];obtain⟨a7,D,p,bl,ql,np,q,c,G,a⟩:=M2.s;have lm:=E _ _ a.Iv.Iv;have ba:=L.at hb g5 f5;rw[Ah lm (by kernel_rfl),a.Iv.oa]
    try simp only[Aa,Aw]
    rw[Ah lm (by kernel_rfl),a.Iv.ob]
    try simp only[Aa,Aw]
    rw[Ah lm (by kernel_rfl),a.Iv.ou]
    try simp only[Aa,Aw]
    rw[Ah lm (by kernel_rfl),a.Iv.table]
    try simp only[Aa,Aw]
    rw[show ∀k:EV->R,Qi 32 1 (.ptr X 6) none none none k=k (.slice X 6 32 32 false)from fun k=>rfl]
    try simp only[Aa,Aw]
    have bs:Bs h2.lift (.slice X 6 32 32 false) X 6 e.bytes:=by
     refine⟨32,false,_,e.cells,by rw[w.len],by rw[w.len];omega,by rw[By];exact ba,rfl,by rw[el,w.len];exact aC _,?_⟩;unfold En.cells;rw[w.len];show(Bc e.bytes).take 32=_;rw[bP (by rw[Bi,w.len];omega)]
    refine Ok.Ds (by kernel_rfl) (by kernel_rfl) (A28 (K:=K) hK bs (Du E) w.u8 (by rw[w.len];omega)) (fun _ _ p=>p.2) ?_;rintro _ ch t ⟨rfl,_⟩ _ x3;have U:=x3.hb E;have cl:=Bav w.u8;simp only[Nk,Aa];rw[show Cx .i64 (Int.ofNat (F4 e.bytes))=(F4 e.bytes:Int)from Cn (by show -9223372036854775808<=((F4 e.bytes:Nat):Int);omega) (by show((F4 e.bytes:Nat):Int)<=_;omega)];rw[Az (l:=(⟨1,T.a,T.b,T.u,seq,F4 e.bytes⟩:Me).cells) rfl]
    try simp only[Aa,Aw]
    rw[Kh (by kernel_rfl)];refine Ok.st (⟨1,T.a,T.b,T.u,seq,F4 e.bytes⟩:Me).cells (Ac _ _) rfl rfl (Bm rfl) ?_;have x4:Ext t ((t.new (.cells [EV.int .i64 0,.int .i64 0,.int .i64 0,.int .i64 0,.int .i64 0,.int .i64 0] 53)).put t.next (.cells (⟨1,T.a,T.b,T.u,seq,F4 e.bytes⟩:Me).cells 53)):=(Ar.new t _:Ext _ _).Ak (.inr (aC _)) (aE _) _;have aq:((t.new (.cells [EV.int .i64 0,.int .i64 0,.int .i64 0,.int .i64 0,.int .i64 0,.int .i64 0] 53)).put t.next (.cells (⟨1,T.a,T.b,T.u,seq,F4 e.bytes⟩:Me).cells 53)).get t.next=some (.cells (⟨1,T.a,T.b,T.u,seq,F4 e.bytes⟩:Me).cells 53):=Ae _ _ _
    have n4:((t.new (.cells [EV.int .i64 0,.int .i64 0,.int .i64 0,.int .i64 0,.int .i64 0,.int .i64 0] 53)).put t.next (.cells (⟨1,T.a,T.b,T.u,seq,F4 e.bytes⟩:Me).cells 53)).next=t.next+1:=rfl
    generalize (t.new (.cells [EV.int .i64 0,.int .i64 0,.int .i64 0,.int .i64 0,.int .i64 0,.int .i64 0] 53)).put t.next (.cells (⟨1,T.a,T.b,T.u,seq,F4 e.bytes⟩:Me).cells 53)=h4 at x4 aq n4⊢
    have Y:=x4.hb U;have au:Ext h2 h4:=x3.trans x4;have M4:=M2.ext E au;refine A1j M4 Y ?_;intro J M5 k5 H _ n5 e5;have bj:Bh F h2 h4 t.next:=.inr ⟨x3.next,by omega⟩
    rw[C8 (by rw[e5 _ bj];exact aq) rfl,Am (n:=6) rfl]
    try simp only[Aa]
    refine fin _ _ J T.Auv (M5.less fun i (hi:F i)=>Or.inl hi) (L.trans (au.Arq k5)) H rfl
   ·rw[aK h0]at fin⊢
    simp only[h0,aA,Aa,Ad];by_cases aa:o=34
    ·rw[aN aa]at fin⊢
     simp only[aa,aB,Aa];rw[Az (l:=Me.zero.cells) rfl];exact fin _ _ h2 T M2 L E rfl
    ·rw[aK aa]at fin⊢
     simp only[aa,aA,Aa,Wk];obtain⟨a7,D,p,bl,ql,np,q,c,G,a⟩:=M2.s;rw[a.Iv.ob];simp only[I,Ad];have hz:0<=Ej T.g z/\¬T.bad z.toNat=1:=by
      obtain⟨e1,e2,e3,e4,_,_,e5⟩:=O;rw[e1,e2];rcases e5 with e5|e5
      ·rw[e5];exact op.1
      ·rw[e5];exact op.2
     have go:∀(t:Ab),Da t m (Mi.Lj (T,z,o)) F->Kf F h t->HB t ->
      Ok (P7 (Ag TT disp K d false) (Ag TT disp K d true) K (Gp (Ag TT disp K d false) (Ag TT disp K d true) K f) (.ptr m 0) (I Av) (I seq) (.ptr X 0) (.ptr C 0) (I z) t) fun v h'=>
       v=.tuple [.agg (if((Mi.Lj (T,z,o)).Bt z).2=34 then(((Mi.Lj (T,z,o)).Bt z).1,Me.zero,(34:Int))else Mi.Qv e Av seq n ((Mi.Lj (T,z,o)).Bt z).1).2.1.cells,I (if((Mi.Lj (T,z,o)).Bt z).2=34 then(((Mi.Lj (T,z,o)).Bt z).1,Me.zero,(34:Int))else Mi.Qv e Av seq n ((Mi.Lj (T,z,o)).Bt z).1).2.2] /\
        Da h' m (if((Mi.Lj (T,z,o)).Bt z).2=34 then(((Mi.Lj (T,z,o)).Bt z).1,Me.zero,(34:Int))else Mi.Qv e Av seq n ((Mi.Lj (T,z,o)).Bt z).1).1 (fun i=>F i/\¬i=C)/\Kf (fun i=>F i/\¬i=C) h h'/\HB h':=by
      intro t M3 k3 U;obtain⟨u1,u2,u3,u4⟩:=Bld (T,z,o);simp only at u1 u2 u3 u4;have ae:0<=Ej (Mi.Lj (T,z,o)).g z/\¬(Mi.Lj (T,z,o)).bad z.toNat=1:=by rw[u1,u2];exact hz
      have less:=Amd M3.wf ae.1 ae.2;have qg:=A2d (Mi.Lj (T,z,o)) z;simp only[P7,dr];refine(Xe A hK M3 U (by omega) (Aj5 M3.wf.sm ae.1)).Ap ?_;rintro _ h4 ⟨rfl,M4,k4,Y⟩;have ab:Kf F h h4:=k3.trans k4;simp only[I,Ad];by_cases hq:((Mi.Lj (T,z,o)).Bt z).2=34
      ·rw[aN hq]at fin⊢
       simp only[hq,aB,Aa];rw[Az (l:=Me.zero.cells) rfl];exact fin _ _ h4 _ M4 ab Y rfl
      ·rw[aK hq]
       simp only[hq,aA,Aa];have bp:=ab.at hb g5 f5;have bt:=ab.at hb g8 f8;refine(ih f h4 _ F ?_ (by omega) M4 Y f5 f8 az bp bt).mono ?_
       ·rw[qg]
        have e1:(Mi.Lj (T,z,o)).g=S.g:=by rw[u1,O.1,ao.1]
        have e2:(Mi.Lj (T,z,o)).bad=S.bad:=by rw[u2,O.2.1,ao.2]
        rw[e1,e2]at less;rw[e1];omega
       ·rintro v J ⟨ev,M5,k5,H⟩
        exact⟨ev,M5,(ab.less sub).trans k5,H⟩
     by_cases W:z=T.b
     ·simp only[W,aB,Aa]
      refine A1j M2 E ?_;intro t M3 k3 U _ _ _;have:=go t (by unfold Mi.Lj;rw[aN W];exact M3) (L.trans k3) U;rw[W]at this;exact this
     ·simp only[W,aA,Aa]
      exact go h2 (by unfold Mi.Lj;rw[aK W];exact M2) L E
  ·rw[aN hr]at fin⊢
   simp only[hr,aG,aB,Aa];rw[Az (l:=Me.zero.cells) rfl];exact fin _ _ h1 _ M1 k1 aj rfl
theorem Bcr(A:Ca disp)(hK:10000<K)(hd:20<=d)(M:Da h m S F)(hb:HB h){e:En}(w:e.Wf)(Av seq:Int):
 Ok (Ag TT disp K d false 185 [.ptr m 0,.agg e.cells,I Av,I seq] h) fun v h'=>v=.tuple [.agg (S.place e Av seq).2.1.cells,I (S.place e Av seq).2.2]/\Da h' m (S.place e Av seq).1 F/\Kf F h h'/\HB h':=by
 obtain⟨dd,rfl⟩:∃k,d=k+1:=⟨d-1,by omega⟩;rw[Air A (by omega)];have el:=En.Bk w;simp only[Ac4,Aa];rw[show(h.new (.cells e.cells 203)).next=h.next+1 from rfl];have O:Ext h ((h.new (.cells e.cells 203)).new (.cells Me.zero.cells 53)):=(Ar.new _ _).Di _;have H:((h.new (.cells e.cells 203)).new (.cells Me.zero.cells 53)).get h.next=some (.cells e.cells 203):=by
  rw[Ay _ (aE _)];exact Ac _ _
 have E:((h.new (.cells e.cells 203)).new (.cells Me.zero.cells 53)).get (h.next+1)=some (.cells Me.zero.cells 53):=Ac _ _;have n1:((h.new (.cells e.cells 203)).new (.cells Me.zero.cells 53)).next=h.next+2:=rfl
 rw[show(Dz.cells [EV.int .i64 0,.int .i64 0,.int .i64 0,.int .i64 0,.int .i64 0,.int .i64 0] 53)=.cells Me.zero.cells 53 from rfl];generalize (h.new (.cells e.cells 203)).new (.cells Me.zero.cells 53)=X at O H E n1⊢;have o:=O.hb hb;rw[C8 H rfl,Am el]
 try simp only[Aa]
 refine(Aft (K:=K) w o hK 0 0 Av seq).Ap ?_;rintro _ h2 ⟨rfl,T⟩;have U:=T.hb o;have Y:=A1e w 0 0 Av seq;unfold Mi.place;generalize J3 e 0 0 Av seq=fe at Y⊢;obtain⟨f,er⟩:=fe;have fl:=Fr.Bk Y;have zl:=Fr.Bk Fr.G7;simp only[Aa,Ar2];refine Ok.st f.cells (Ac _ _) rfl (by show F9 f.cells=49;rw[Bf,fl]) (Bm (by rw[zl];exact fl.symm)) ?_;have J:Ext h2 ((h2.new (.cells Fr.zero.cells 247)).put h2.next (.cells f.cells 247)):=(Ar.new h2 _:Ext _ _).Ak (.inr (aC _)) (aE _) _;generalize (h2.new (.cells Fr.zero.cells 247)).put h2.next (.cells f.cells 247)=q at J⊢
 have t:=J.hb U;have u:Ext h q:=(O.trans T).trans J;have C:Ext X q:=T.trans J;have M3:=M.ext hb u;have H:=C.at o H;have E:=C.at o E;have ln:h.next+2<=q.next:=by have:=C.next;omega
 simp only[I,Ad];by_cases he:er=0
 ·subst he
  simp only[aD,aA,Aa,aY,X0];have gl:=A5r S.bad (S.g.D*S.g.Z).toNat;have:(S.g.D*S.g.Z).toNat<=512:=by
   have X:=M.wf.sm.d1;have h2:=M.wf.sm.z1;have q:=M.wf.sm.d0;have h4:=M.wf.sm.z0;obtain⟨m0,m1⟩:=N1 (a:=S.g.D) (b:=S.g.Z) (A:=8) (B:=64) (by omega) (by omega) (by omega) (by omega);omega
  refine(A95 A hK (by omega) w Av seq 1000 K q S (Bh F h q) (by omega) (by omega) M3 t (.inr ⟨by omega,by omega⟩) (.inr ⟨by omega,by omega⟩) (by omega) H E).mono ?_;rintro v h4 ⟨ev,M4,k4,W⟩;refine⟨ev,M4.less fun i (L:F i)=>⟨.inl L,fun y=>by have:=M.lt i L;omega⟩,?_,W⟩;exact Ar.then (S:=fun i=>¬F i) (Ext.to u) k4 fun i y hl z=>y ⟨.inl z,fun y=>by have:=M.lt i z;omega⟩
 ·simp only[he,aG,aB,Aa,bG]
  rw[Az (l:=Me.zero.cells) rfl];refine Ok.st Me.zero.cells E rfl rfl (Bm rfl) ?_;rw[Fu (Ae _ _ _) A0l.1 A0l.2 rfl];have l8:=t _ _ E;have x4:Ext h (q.put (h.next+1) (.cells Me.zero.cells 53)):=u.Ak (.inr (by omega)) l8 _;exact .ret ⟨rfl,(M.ext hb x4).less fun i (L:F i)=>Or.inl L,x4.kf,t.put l8 _⟩
end Go.Ev
