import Derived.Test.YtadnemjjlacolaaGreatZa
import Derived.Test.YtadnemjjlacolaaGreatXb
set_option linter.all false
namespace Go.Ev
open Go.Proofs
set_option maxRecDepth 100000
variable {p x y:List EV}{D K V b d i j m n:Nat}{h h':Aa}{e:Yb}{Z:Zn}{F G F':Nat->Prop}{ms:List (EV × EV)}{S:Mi}{ev:List Yb}{Q:EV->Aa->Prop}{g:Gm}{ps:Nat->List Int}{P:Int->Prop}{disp:Nat->Option FT}
theorem At3(a:x.length=64)(f:y.length=64):(Xx x y).length=64:=by unfold Xx;rw[List.length_zipWith,a,f];rfl
theorem U8.at(u:U8 x)(f:i<x.length):∃a:Nat,a<256/\x[i]=.int .u8 (Int.ofNat a):=by
 obtain⟨l,k,rfl⟩:=u;rw[Bg]at f;exact⟨l[i],k _ (a9 _),by simp[Bj]⟩
theorem U8.xor(f:U8 x)(k:U8 y):U8 (Xx x y):=by
 obtain⟨a,o,rfl⟩:=f;obtain⟨b,hb,rfl⟩:=k;refine⟨List.zipWith Nat.xor a b,fun c q=>?_,?_⟩
 ·obtain⟨i,t,rfl⟩:=List.getElem_of_mem q
  rw[List.getElem_zipWith];rw[List.length_zipWith]at t;exact dh (n:=8) (o _ (a9 _)) (hb _ (a9 _))
 ·unfold Xx Bj
  rw[List.zipWith_map,List.map_zipWith];rfl
theorem Bjx {h0:Aa}{b2 b3 b4:Nat}(T:x.length=64)(U:y.length=64)(W:U8 x)(X:U8 y)(Y:h0.next<=b2)(l3:b2<b3)(l4:b3<b4):∀(m i:Nat) (h:Aa) (l:List EV),64-i<m->i<=64->HB h->Ext h0 h ->
 h.get b2=some (.cells l 30)->l.length=64->(∀j,j<64->l[j]? = if j<i then(Xx x y)[j]? else x[j]?)->h.get b3=some (.cells y 30)->h.get b4=some (.cells T6 30) ->
 Ok (Kh K m (.ptr b2 0) (.ptr b3 0) (.ptr b4 0) (.int .i64 (i:Int)) h) fun v h'=>v=.agg (Xx x y)/\Ext h0 h'/\HB h':=by
 intro m;induction m with
 | zero=>intro i h l hm;omega
 | succ m ih=>
  intro i h l hm hi hb c B k hj C E;have f:=hb _ _ B;have H:=hb _ _ C;have o:=hb _ _ E;simp only[Kh,Ac];by_cases q:i<64
  ·rw[aP (show(i:Int)<64 by omega)]
   obtain⟨a,ha,O⟩:=W.at (i:=i) (by omega);obtain⟨b,J,eb⟩:=X.at (i:=i) (by omega);have e2:l[i]? = some (.int .u8 (Int.ofNat a)):=by rw[hj i q,aF (bO _),aD (by omega),O]
   have e3:y[i]? = some (.int .u8 (Int.ofNat b)):=by rw[aD (by omega),eb]
   have ex:(Xx x y)[i]? = some (Nk .u8 (a ^^^ b)):=by
    unfold Xx;rw[List.getElem?_zipWith,aD (show i<x.length by omega),O,e3];rfl
   simp only[Ab,Ab8,Ac7 q,bK,bW];rw[Jb f,Al B rfl e2,Jb H,Al C rfl e3,Bhc ha J,J6];refine Ok.st1 B rfl rfl (by omega) ?_;simp only[Acu,Ac];rw[Cq];refine ih (i+1) _ (l.set i (Nk .u8 (a ^^^ b))) (by omega) (by omega) (hb.put f _) (c.Aq (.inr Y) f _) (Ae _ _ _) (by rw[bM];exact k) (fun j L=>?_) ?_ ?_
   ·rw[dH]
    by_cases t:i=j
    ·subst t;rw[aH rfl,aH (by omega),aH (by omega),ex]
    ·rw[aF t,hj j L]
     by_cases u:j<i
     ·rw[aH u,aH (by omega)]
     ·rw[aF u,aF (by omega)]
   ·rw[Af _];exact C
   ·rw[Af _];exact E
  ·have:i=64:=by omega
   subst this;have el:l=Xx x y:=by
    refine dW fun j=>?_
    by_cases u:j<64
    ·rw[hj j u,aH u]
    ·rw[bh (by omega),bh (by rw[At3 T U];omega)]
   subst el;simp only[show ¬((64:Nat):Int)<64 by omega,aA,Ab,Acb];rw[Cw B rfl,Ak k];simp only[Ab];refine Ok.st (Xx x y) E rfl (by show Fz (Xx x y)=64;rw[Bc,k]) (Bk (by rw[Kn];exact k.symm)) ?_;rw[Sx (Ae _ _ _) Awi.1 Awi.2 k];exact .ret ⟨rfl,c.Aq (.inr (by omega)) o _,hb.put o _⟩
theorem Bj7(a:x.length=64)(k:y.length=64)(o:U8 x)(q:U8 y)(hb:HB h)(hK:100<K):
 Ok (Ot K (.agg x) (.agg y) h) fun v h'=>v=.agg (Xx x y)/\Ext h h'/\HB h':=by
 simp only[Ot,Ab];have f:Ext h (((h.new (.cells x 30)).new (.cells y 30)).new (.cells (List.replicate 64 (.int .u8 0)) 30)):=((Ar.new _ _).Df _).Df _;refine Bjx (h0:=h) (x:=x) (y:=y) a k o q (b2:=h.next) (b3:=h.next+1) (b4:=h.next+2) (aE _) (by omega) (by omega) K 0 _ x (by omega) (by omega) (f.hb hb) f ?_ a (fun j _=>by rw[aF (bm _)]) ?_ (Ad _ _)
 ·rw[Aw _ (by show h.next<h.next+1+1;omega),Aw _ (by show h.next<h.next+1;omega)];exact Ad _ _
 ·rw[Aw _ (by show h.next+1<h.next+1+1;omega)];exact Ad _ _
theorem Bcn(A:Bv disp){e:Nat}(he:2<=e)(E:h.get b=some (.cells p 30))(t:x.length=64)(hp:p.length=64)(H:U8 x)(up:U8 p)(hb:HB h)(hK:100<K):
 Ok (S7 (Ag TT disp K e false) (Ag TT disp K e true) (.func 225 [] [.ptr b 0]) [.agg x] h) fun v h'=>v=.agg (Xx x p)/\Ext h h'/\HB h':=by
 obtain⟨d,rfl⟩:∃k,e=k+1:=⟨e-1,by omega⟩;show Ok (Ag TT disp K (d+1) false 225 [.agg x,.ptr b 0] h) _;rw[Aij A (by omega)];simp only[Acx,Ab];have q:Ext h ((h.new (.cells x 30)).new (.cells (List.replicate 64 (.int .u8 0)) 30)):=(Ar.new _ _).Df _;have B:((h.new (.cells x 30)).new (.cells (List.replicate 64 (.int .u8 0)) 30)).get h.next=some (.cells x 30):=by
  rw[Aw _ (by show h.next<h.next+1;omega)];exact Ad _ _
 have f:((h.new (.cells x 30)).new (.cells (List.replicate 64 (.int .u8 0)) 30)).get (h.next+1)=some (.cells T6 30):=Ad _ _;rw[show(h.new (.cells x 30)).next=h.next+1 from rfl];generalize (h.new (.cells x 30)).new (.cells (List.replicate 64 (.int .u8 0)) 30)=L at q B f⊢;have o:=q.hb hb;have J:=q.at hb E;rw[Cw B rfl,Ak t];simp only[Ab];rw[Cw J rfl,Ak hp];simp only[Ab];refine(Bj7 (K:=K) t hp H up o hK).Ap ?_;rintro _ h2 ⟨rfl,C,a⟩;have f:=C.at o f;have u:=At3 t hp;refine Ok.st (Xx x p) f rfl (by show Fz (Xx x p)=64;rw[Bc,u]) (Bk (by rw[Kn];exact u.symm)) ?_;rw[Sx (Ae _ _ _) Awi.1 Awi.2 u];exact .ret ⟨rfl,(q.trans C).Aq (.inr (by omega)) (a _ _ f) _,a.put (a _ _ f) _⟩
theorem Atd:∀(l vs:List EV),vs.length<=l.length->Jd l vs=some (vs++l.drop vs.length)
 | l,[],_=>by cases l<;>rfl
 | [],_::_,h=>by simp at h
 | a::l,v::vs,h=>by
  show(match Jd l vs with|some x=>some (v::x)|none=>none)=_;rw[Atd l vs (by simpa using h)];rfl
theorem Asf:∀(l:List EV) (off:Nat) (vs:List EV),off+vs.length<=l.length->Fq l off vs=some (l.take off++vs++l.drop (off+vs.length))
 | [],off,vs,h=>by
  have h0:off=0/\vs = []:=by simp at h;exact⟨h.1,h.2⟩
  obtain⟨rfl,rfl⟩:=h0;rfl
 | a::l,0,vs,h=>by
  show Jd (a::l) vs=_;rw[Atd _ _ (by omega)];simp
 | a::l,off+1,vs,h=>by
  show(match Fq l off vs with|some x=>some (a::x)|none=>none)=_;rw[Asf l off vs (by simp at h;omega)];simp only[fP,List.cons_append];rw[show off+1+vs.length=(off+vs.length)+1 by omega,List.drop_succ_cons]
theorem Aj9 {l vs:List EV}{off:Nat}(h:off+vs.length<=l.length):L7 l off vs=some (l.take off++vs++l.drop (off+vs.length)):=by rw[Ue,Asf _ _ _ h]
theorem Aor:∀(l:List (List EV)),(∀x∈l,x.length=n)->l.flatten.length=l.length*n
 | [],_=>by simp
 | a::l,hw=>by
  rw[br,aG,Aor l fun x f=>hw x (aR _ f),hw a (aW ..),bF,fQ];omega
theorem Ayz{l:List (List EV)}(hw:∀x∈l,x.length=n)(hj:j<l.length):l.flatten=(l.take j).flatten++l[j]++(l.drop (j+1)).flatten/\(l.take j).flatten.length=j*n/\l[j].length=n:=by
 refine⟨?_,?_,hw _ (a9 _)⟩
 ·have:l=l.take j++l[j]::l.drop (j+1):=by rw[<-cq hj,List.take_append_drop]
  conv=>lhs;rw[this]
  rw[dX,br,cR]
 ·rw[Aor (n:=n) _ fun x a=>hw x (bc a),b9,eH (by omega)]
theorem A0y{l:List (List EV)}(hw:∀x∈l,x.length=n)(hj:j<l.length):Mo l.flatten (j*n) n=some l[j]:=by
 obtain⟨e,a,h2⟩:=Ayz hw hj;rw[e,E7 (by rw[aG,aG,a,h2];omega),<-a,cR,fm,<-h2,eW]
theorem A0z{l:List (List EV)}(hw:∀x∈l,x.length=n)(hj:j<l.length){v:List EV}(f:v.length=n):L7 l.flatten (j*n) v=some (l.set j v).flatten:=by
 obtain⟨e,a,h2⟩:=Ayz hw hj;have e2:(l.set j v).flatten=(l.take j).flatten++v++(l.drop (j+1)).flatten:=by
  rw[List.set_eq_take_append_cons_drop,aH hj,dX,br,cR]
 have k:l.flatten.length=j*n+n+(l.drop (j+1)).flatten.length:=by rw[e,aG,aG,a,h2]
 have t1:l.flatten.take (j*n)=(l.take j).flatten:=by rw[e,cR,<-a,eW]
 have t2:l.flatten.drop (j*n+n)=(l.drop (j+1)).flatten:=by
  rw[show j*n+n=((l.take j).flatten++l[j]).length by rw[aG,a,h2],e,fm]
 rw[Aj9 (by rw[k,f];omega),f,t1,t2,e2]
def Zn.change(Z:Zn)(off:Int)(p:List EV):Zn:=if 0<=off/\off<Z.l.length then { Z with l:=Z.l.set off.toNat (Xx (((Z.l[off.toNat]?).getD T6)) p) }else Z
theorem Zn.Wf.change{size:Nat}(w:Z.Wf size)(off:Int)(hp:U8 p):(Z.change off p).Wf size:=by
 unfold Zn.change;split
 ·refine⟨fun x a=>?_,w.st,by simp only[bM];exact w.safe,by simp only[bM];exact w.len,by simp only[bM];exact w.room⟩
  rcases cm a with a|a
  ·exact w.u8 x a
  ·rw[a]
   refine U8.xor ?_ hp;cases f:Z.l[off.toNat]? with
   | none=>exact U8.zs
   | some y=>exact w.u8 _ (bU f)
 ·exact w
theorem Axo(A:Bv disp){e:Nat}(he:2<=e){z q size:Nat}(o:Fg h z q size Z)(w:Z.Wf size)(hs:size<=64)(hb:HB h)(off:Int)(T:h.get b=some (.cells p 30))(hp:p.length=64)(up:U8 p)(hK:100<K):
 Ok (Jr (Ag TT disp K e false) (Ag TT disp K e true) K (.ptr z 0) (I off) (.func 225 [] [.ptr b 0]) h) fun v h'=>v=I (if 0<=off/\off<Z.l.length then 0 else 31)/\Fg h' z q size (Z.change off p)/\Ar (fun j=>Z.l≠[]/\j=q) h h'/\HB h':=by
 obtain⟨s,g,r⟩:=o.Ah;have L:=hb _ _ g;have no:¬(0<=off/\off<Z.l.length)->Ok (some (I 31,h)) fun v h'=>v=I (if 0<=off/\off<Z.l.length then 0 else 31)/\Fg h' z q size (Z.change off p)/\Ar (fun j=>Z.l≠[]/\j=q) h h'/\HB h':=fun O=>by
  unfold Zn.change;rw[aF O,aF O];exact .ret ⟨rfl,o,Ar.refl _,hb⟩
 simp only[Jr,I,Ac];by_cases h0:off<0
 ·rw[aP h0]
  simp only[Ab,Ac,Fk];exact no fun y=>by omega
 ·rw[aO h0]
  simp only[Ab,Ac,Cs g rfl,r.H5];by_cases J:(Z.l.length:Int)<=off
  ·rw[aP J]
   simp only[Ab,Fk];exact no fun y=>by omega
  ·rw[aO J]
   obtain⟨j,rfl⟩:∃j:Nat,off=j:=⟨off.toNat,by omega⟩;have hj:j<Z.l.length:=by omega
   have C:=r.block (by omega);have lq:=hb _ _ C;have f:(0:Int)<=(j:Int)/\(j:Int)<Z.l.length:=by omega
   unfold Zn.change;rw[aH f,aH f,bD,aD hj,Option.getD_some];obtain⟨_,k⟩:=(Ayz o.wf hj).2;simp only[Ab,Fk,Mx,Au];rw[Jb L,Cs g rfl];simp only[Ab,Au];rw[Jb L,Cs g rfl];simp only[Ab,Au,r.ix hj];rw[Jb lq,Cr C rfl (A0y o.wf hj)];simp only[Au];refine Ok.bE (Bcn (K:=K) A he (h:=h.lift) (by rw[By];exact T) k hp (w.u8 _ (a9 _)) up (Dg hb) hK) (fun _ _ p=>p.2.1) ?_;rintro _ J h2 ⟨rfl,_,U⟩ sm E;have t:=E.hb hb;have u:=E.at hb C;have H:=At3 k hp;rw[J6,Blf (v:=.agg (Xx Z.l[j] p)) u rfl (by show Fz (Xx Z.l[j] p)=64;rw[Bc,H]) (A0z o.wf hj H)];have B:=t _ _ u;refine .ret ⟨rfl,⟨⟨s,?_,?_⟩,fun x a=>?_⟩,(Ext.to E).Aq (.inl ⟨fun y=>by rw[y]at hj;simp at hj,rfl⟩) B _,t.put B _⟩
   ·rw[Af _ (Bb C g (by simp))];exact E.at hb g
   ·refine .inr ⟨by rw[bM];omega,by rw[bM];exact r.slice (by omega),Ae _ _ _,?_⟩
    rw[Aor (n:=64),bM];intro x a;rcases cm a with a|a
    ·exact o.wf x a
    ·rw[a];exact H
   ·rcases cm a with a|a
    ·exact o.wf x a
    ·rw[a];exact H
theorem A15(A:Bv disp)(hd:4<=d){D:Dv}(s:Hc h V D F)(hb:HB h)(hK:100<K)(z off:Int)(hp:p.length=64)(up:U8 p):
 Ok (Ag TT disp K d false 209 [.ptr V 0,I z,I off,.agg p] h) fun v h'=>(∃n:Int,v=I n/\(n=0↔D.has z=true/\0<=off/\off<(D.zs z.toNat).l.length))/\Hc h' V (D.Av4 z off p) (Bf F h h')/\Ar F h h'/\HB h':=by
 obtain⟨e,rfl⟩:∃k,d=k+1:=⟨d-1,by omega⟩;rw[Alp A (by omega)];simp only[Afl,Ab];have t:Ext h (h.new (.cells p 30)):=Ar.new _ _;have E:(h.new (.cells p 30)).get h.next=some (.cells p 30):=Ad _ _
 have o:HB (h.new (.cells p 30)):=hb.new _;have s1:=s.ext t;generalize h.new (.cells p 30)=O at t E o s1⊢;rw[Akm s1];unfold Dv.Av4;cases H:D.has z with
 | false=>
  simp only[Ab,aX,gF,ak];exact .ret ⟨⟨13,rfl,by simp⟩,s1.grow s.lt t.next,Ext.to t,o⟩
 | true=>
  have T:=dI H;obtain⟨j,rfl⟩:∃j:Nat,z=j:=⟨z.toNat,by omega⟩;have hj:j<D.n:=by omega
  obtain⟨w,wl,zl,U,q,a,b⟩:=s1;have w':=w.zs j hj;simp only[Ab,Zk,a.list,a.Bga hj,bD,gG];obtain⟨f,rfl⟩:∃k,e=k+1:=⟨e-1,by omega⟩;rw[Vn A (by omega)];refine(Axo (K:=K) (e:=f) A (by omega) (a.Ah j hj) w' w.size o off E hp up hK).Ap ?_;rintro _ h2 ⟨rfl,J,c2,u⟩;obtain⟨d3,B⟩:=Hc.Ah w a b wl o hj (w'.change off up) J (c2.mono fun _=>.inr) u (fun y=>.inr ⟨rfl,fun e=>y (by unfold Zn.change;split<;>simp[e])⟩);refine .ret ⟨⟨_,rfl,by split<;>simp_all⟩,?_,(Ext.to t).trans B,u⟩;have d4:Hc h2 V (D.set j ((D.zs j).change off p)) (Bf F h h2):=d3.mono (fun i L=>by
   rcases L with y|y
   ·exact .inl y
   ·exact .inr ⟨bN t.next y.1,y.2⟩) (Bf.lt s.lt (bN t.next B.next))
  unfold Zn.change at d4;split
  ·rename_i C
   rw[aH C]at d4;exact d4
  ·rename_i C
   rw[aF C]at d4;have e:D.set j (D.zs j)=D:=by
    unfold Dv.set;have:H6 D.zs j (D.zs j)=D.zs:=by funext i;unfold H6;split<;>simp_all
    rw[this]
   rw[e]at d4;exact d4
theorem Yb.len(w:e.Wf):e.cells.length=68:=by unfold Yb.cells;rw[aG,w.len];rfl
theorem Yb.Bgh(w:e.Wf):Mo e.cells 4 64=some e.pat:=by
 rw[E7 (by rw[Yb.len w];omega)];show some ((e.pat).take 64)=_;rw[bQ (by rw[w.len];omega)]
theorem Yb.one(e:Yb):e.cells[0]? = some (I e.Ow)/\e.cells[1]? = some (I e.kind)/\e.cells[2]? = some (I e.Ah)/\e.cells[3]? = some (I e.off):=⟨rfl,rfl,rfl,rfl⟩
theorem F0.call {f h4:Aa}{M qc qh:Nat}{cs hs:EV}{S:Jp}{dv:Dv}(s:F0 h D S G)(a:Ae6 h D V M qc qh cs hs ms S F G)(hb:HB h)(d3:Hc f V dv (Bf F h.lift f))(sm:Al4 f h4)(c4:Ar F h h4):
 F0 h4 D { S with dv:=dv } (Bf G h h4)/\Ar G h h4/\Ae6 h4 D V M qc qh cs hs ms { S with dv:=dv } (Bf F h h4) (Bf G h h4):=by
 have d4:Hc h4 V dv (Bf F h h4):=by
  have:=d3.frame (h':=h4) (by rw[sm.next];exact aE _) fun j _=>sm.get j
  refine this.mono (fun j hj=>?_) (Bf.lt a.dev.lt c4.next);rcases hj with y|y
  ·exact .inl y
  ·exact .inr ⟨y.1,by rw[sm.next];exact y.2⟩
 have:=s.put a hb d4 c4;exact⟨this.1,this.2,a.put hb d4 c4⟩
theorem A4u(A:Bv disp)(hK:1000<K)(hd:6<=d){S:Jp}(s:F0 h D S G)(hb:HB h)(w:e.Wf):
 Ok (Ag TT disp K d false 180 [.ptr D 0,.agg e.cells] h) fun v h'=>F0 h' D { S with dv:=S.dv.Av4 e.Ah e.off e.pat } (Bf G h h')/\Ar G h h'/\HB h':=by
 obtain⟨dd,rfl⟩:∃k,d=k+1:=⟨d-1,by omega⟩;rw[Amg A (by omega)];simp only[Aiv,Ab];have x1:Ext h (h.new (.cells e.cells 32)):=Ar.new _ _;have t:(h.new (.cells e.cells 32)).get h.next=some (.cells e.cells 32):=Ad _ _
 have B:HB (h.new (.cells e.cells 32)):=hb.new _;have s1:=s.ext x1;have n1:(h.new (.cells e.cells 32)).next=h.next+1:=rfl
 generalize h.new (.cells e.cells 32)=h1 at x1 t B s1 n1⊢;have nx:¬G h.next:=fun y=>bO _ (s.lt _ y)
 obtain⟨V,M,qc,qh,cs,hs,ms,F,a⟩:=s1.Ow;have lD:=B _ _ a.Dr;have l3:=B _ _ t;obtain⟨_,_,e2,e3⟩:=e.one;rw[Jb lD,Cs a.Dr rfl]
 try simp only[Ab,Au]
 rw[Jb l3,Al t rfl e2]
 try simp only[Ab,Au]
 rw[Jb l3,Al t rfl e3]
 try simp only[Ab,Au]
 rw[Jb l3,Cr t rfl (Yb.Bgh w)]
 try simp only[Ab,Au]
 refine Ok.bC (S:=F) (A15 (K:=K) A (by omega) a.dev.lift (Dg B) (by omega) e.Ah e.off w.len w.u8) (fun _ _ p=>p.2.2.1) ?_;rintro _ h3 h4 s' ⟨⟨n,rfl,_⟩,d3,_,al⟩ sm c4 _;obtain⟨s4,X,a4⟩:=s1.call a B d3 sm c4;have L:=sm.hb al;have t:=X.at B t nx;have fin:∀(f:Aa) (G5:Nat->Prop),F0 f D { S with dv:=S.dv.Av4 e.Ah e.off e.pat } G5->(∀i,G5 i->Bf G h f i)->Ar (Bf G h1 h4) h4 f->HB f->Ok (some (.tuple [],f)) fun v h'=>F0 h' D { S with dv:=S.dv.Av4 e.Ah e.off e.pat } (Bf G h h')/\Ar G h h'/\HB h':=fun f G5 s5 g5 c5 q=>by
  have cc:Ar G h f:=((Ext.to x1).trans X).then c5 fun j hj hl=>by
   rcases hj with y|y
   ·exact y
   ·omega
  exact .ret ⟨s5.mono g5 (Bf.lt s.lt cc.next),cc,q⟩
 have gr:∀f:Aa,h4.next<=f.next->∀i,Bf G h1 h4 i->Bf G h f i:=fun f l i E=>by
  rcases E with y|y
  ·exact .inl y
  ·exact .inr ⟨by omega,by omega⟩
 simp only[Ac,I];by_cases hn:n=0
 ·subst hn
  simp only[aC,aA,Ab,Acz];rw[Al t rfl e2]
  try simp only[Ab]
  rw[Al t rfl e3];rw[Ax (l:=[I e.Ah,I e.off]) rfl]
  try simp only[Ab]
  have C:Ext h4 (h4.new (.cells [I 0,I 0] 227)):=Ar.new _ _;have bx:(h4.new (.cells [I 0,I 0] 227)).get h4.next=some (.cells [I 0,I 0] 227):=Ad _ _
  refine Ok.st [I e.Ah,I e.off] (o:=0) (l:=[I 0,I 0]) (Ad _ _) rfl rfl rfl ?_;have C:Ext h4 ((h4.new (.cells [I 0,I 0] 227)).put h4.next (.cells [I e.Ah,I e.off] 227)):=(Ar.new h4 _:Ext _ _).Aq (.inr (aE _)) (aL _) _;have J:((h4.new (.cells [I 0,I 0] 227)).put h4.next (.cells [I e.Ah,I e.off] 227)).get h4.next=some (.cells [I e.Ah,I e.off] 227):=Ae _ _ _
  have n5:((h4.new (.cells [I 0,I 0] 227)).put h4.next (.cells [I e.Ah,I e.off] 227)).next=h4.next+1:=rfl
  simp only[I]at C J n5⊢;generalize (h4.new (.cells [EV.int .i64 0,.int .i64 0] 227)).put h4.next (.cells [.int .i64 e.Ah,.int .i64 e.off] 227)=f at C J n5⊢
  have q:=C.hb L;have s5:=s4.ext C;have t:=C.at L t;have Y:=a4.frame C.next fun i E=>C.get i (s4.lt i E) id
  have au:=q _ _ Y.Dr;have aw:=q _ _ J;have bz:=q _ _ t;rw[Jb au,Cs Y.Dr rfl]
  try simp only[Ab,Au]
  rw[Jb aw,Cr J rfl (Ak (n:=2) rfl)]
  try simp only[Ab,Au]
  obtain⟨p,k,el,up,lp⟩:=Bc3 (h:=f.lift) (by rw[By];exact Y.map) Y.marks e.Ah e.off;simp only[kp,I]at el;rw[Auf el]
  try simp only[Ab,Au]
  have H:Ext f ((f.new (.cells (List.replicate 64 (EV.int .u8 0)++[EV.int .i64 0]) 246)).put f.next (.cells (p++[I k]) 246)):=(Ar.new f _:Ext _ _).Aq (.inr (aE _)) (aL _) _;have U:((f.new (.cells (List.replicate 64 (EV.int .u8 0)++[EV.int .i64 0]) 246)).put f.next (.cells (p++[I k]) 246)).get f.next=some (.cells (p++[I k]) 246):=Ae _ _ _
  rw[J6];refine Ok.st (p++[I k]) (Ad _ _) rfl (by show Fz (p++[I k])=65;rw[Bc,aG,lp];rfl) (Bk (by rw[aG,bV];show _=(p++[I k]).length;rw[aG,lp];rfl)) ?_;generalize (f.new (.cells (List.replicate 64 (EV.int .u8 0)++[EV.int .i64 0]) 246)).put f.next (.cells (p++[I k]) 246)=h6 at H U⊢
  have u:=H.hb q;have s6:=s5.ext H;have t:=H.at q t;have J:=H.at q J;have a6:=Y.frame H.next fun i E=>H.get i (s5.lt i E) id
  have ay:=u _ _ a6.Dr;have az:=u _ _ J;have a0:=u _ _ t;have aa:=u _ _ U
  try simp only[Ab,Au]
  rw[Jb ay,Cs a6.Dr rfl]
  try simp only[Ab,Au]
  rw[Jb az,Cr J rfl (Ak (n:=2) rfl)]
  try simp only[Ab,Au]
  rw[Jb aa,Cr U rfl (l':=p) (by rw[E7 (by rw[aG,lp];show 0+64<=64+1;omega),dF,<-lp,eW])]
  try simp only[Ab,Au]
  rw[Jb a0,Cr t rfl (Yb.Bgh w)]
  try simp only[Ab,Au]
  refine Ok.bE (Bj7 (K:=K) lp w.len up w.u8 (Dg u) (by omega)) (fun _ _ p=>p.2.1) ?_;rintro _ b5 h7 ⟨rfl,_,_⟩ b6 O;have T:=O.hb u;have s7:=s6.ext O;have a7:=a6.frame O.next fun i E=>O.get i (s6.lt i E) id
  have U:=O.at u U
  try simp only[Ab,Au]
  rw[Jb aa,Al U rfl (v:=I k) (by rw[bR (by omega),lp];rfl)];simp only[Ab,Au,I,Ac];have W:=At3 lp w.len;rw[Ax (l:=Xx p e.pat++[I (De .i64 (k+1))]) (by
   show Zr (Dh [(0,64),(64,1)]) [(0,.agg (Xx p e.pat)),(1,.int .i64 (De .i64 (k+1)))] (List.replicate 64 (.int .u8 0)++[.int .i64 0])=_;have e1:L7 (List.replicate 64 (EV.int .u8 0)++[EV.int .i64 0]) 0 (Xx p e.pat)=some (Xx p e.pat++[EV.int .i64 0]):=by
    rw[Aj9 (by rw[aG,W,bV];show 0+64<=64+1;omega),W];rfl
   have e2:L7 (Xx p e.pat++[EV.int .i64 0]) 64 [EV.int .i64 (De .i64 (k+1))]=some (Xx p e.pat++[I (De .i64 (k+1))]):=by
    rw[Aj9 (by rw[aG,W];show 64+1<=64+1;omega),<-W,eW,dV (by rw[aG];exact aE _),dE]
   show Ba (Nat.beq (Fz (Xx p e.pat)) 64) (oB (fun z=>Zr (Dh [(0,64),(64,1)]) [(1,.int .i64 (De .i64 (k+1)))] z) (L7 (List.replicate 64 (EV.int .u8 0)++[EV.int .i64 0]) 0 (Xx p e.pat))) none=_;rw[Bc,W,cK,Aj,e1];show oB (fun z=>some z) (L7 (Xx p e.pat++[EV.int .i64 0]) 64 [EV.int .i64 (De .i64 (k+1))])=_;rw[e2];rfl)]
  obtain⟨ad,eu,a1⟩:=A4h (h:=h7.lift) (M:=M) (ms:=ms) (by rw[By];exact a7.map) a7.marks e.Ah e.off (p:=Xx p e.pat) (n:=De .i64 (k+1)) (up.xor w.u8) W;simp only[kp,I]at eu;have lM:=T _ _ a7.map;refine Ok.bC (S:=fun i=>i=M) (P:=fun v h'=>v=.tuple []/\h'=h7.lift.put M (.map ad)) ⟨_,_,eu,rfl,rfl⟩ (fun _ _ p=>by rw[p.2];exact(Ar.refl (S:=fun i=>i=M) _).Aq (.inl rfl) (h:=h7.lift) lM _) ?_;rintro _ _ h9 ca ⟨rfl,rfl⟩ af c9 _;obtain⟨s8,c8,ch⟩:=s7.Bi3 a7 T a1;have e9:∀i,h9.get i=(h7.put M (.map ad)).get i:=fun i=>by
   rw[af.get,Aa.get_put,Aa.get_put,By]
  have n9:h9.next=h7.next:=af.next
  have s9:=s8.frame (h':=h9) (by rw[n9];exact aE _) fun i _=>e9 i
  refine fin h9 _ s9 (gr h9 (by have:=C.next;have:=H.next;have:=O.next;omega)) ?_ (c9.hb T);refine((Ext.to C).trans ((Ext.to H).trans (Ext.to O))).then c9 fun i E _=>?_
  subst E;exact a4.sub.2.2.1
 ·simp only[hn,aN,aB,Ab]
  exact fin h4 _ s4 (gr h4 (aE _)) (Ar.refl _) L
theorem Ae6.own{M qc qh f o:Nat}{cs hs q t:EV}{S:Jp}(a:Ae6 h D V M qc qh cs hs ms S F G)(hb:HB h){Pp:List Yb}
 (g:h'.get D=some (.cells [.ptr V 0,q,t,.map M] 143)) (rc:Cj h' q f 32 68 ev.length (ev.map Yb.cells).flatten) (H:Cj h' t o 32 68 Pp.length (Pp.map Yb.cells).flatten)
 (n:h.next<=h'.next) (k:∀i,i<h.next->i≠D->(0<S.ev.length->i≠qc)->(0<S.Pp.length->i≠qh)->h'.get i=h.get i) (sz:∀i,G i->i<h.next)
 (C:0<ev.length->h.next<=f/\f<h'.next\/f=qc/\0<S.ev.length) (E:0<Pp.length->h.next<=o/\o<h'.next\/o=qh/\0<S.Pp.length) (ne:0<ev.length->0<Pp.length->f≠o) :
 Ae6 h' D V M f o q t ms ⟨S.dv,ev,Pp⟩ F (Bf G h h'):=by
 obtain⟨b1,b2,b3,b4,J⟩:=a.sub;obtain⟨c1,c2,c3,c4,T⟩:=a.apart;have L:=hb _ _ a.map;have O:h'.get M=h.get M:=k _ L (Bb a.map a.Dr (by simp)) (fun y=>Bb a.map (a.Jj.block y) (by simp)) (fun y=>Bb a.map (a.Aq9.block y) (by simp));refine⟨g,by rw[O];exact a.map,a.marks,rc,H,a.dev.frame n fun i u=>k i (sz i (b1 i u)) (fun y=>c1 (y▸u)) (fun y z=>c3 y (z▸u)) (fun y z=>c4 y (z▸u)),⟨fun i u=>.inl (b1 i u),.inl b2,.inl b3,fun y=>?_,fun y=>?_⟩,⟨c1,c2,fun y z=>?_,fun y z=>?_,ne⟩⟩
 ·rcases C y with z|⟨z,v⟩
  ·exact .inr z
  ·rw[z];exact .inl (b4 v)
 ·rcases E y with z|⟨z,v⟩
  ·exact .inr z
  ·rw[z];exact .inl (J v)
 ·rcases C y with x|⟨x,B⟩
  ·have:=sz _ (b1 _ z);omega
  ·rw[x]at z;exact c3 B z
 ·rcases E y with x|⟨x,B⟩
  ·have:=sz _ (b1 _ z);omega
  ·rw[x]at z;exact c4 B z
theorem Be0(A:Bv disp)(hK:1000<K)(hd:7<=d){S:Jp}(s:F0 h D S G)(hb:HB h)(w:e.Wf)(hn:S.ev.length+S.Pp.length<200):
 Ok (Ag TT disp K d false 155 [.ptr D 0,.agg e.cells] h) fun v h'=>F0 h' D { S with dv:=S.dv.Se e,Pp:=S.Pp++[e] } (Bf G h h')/\Ar G h h'/\HB h':=by
 obtain⟨dd,rfl⟩:∃k,d=k+1:=⟨d-1,by omega⟩;rw[Aly A (by omega)];simp only[Ag3,Ab];have x1:Ext h (h.new (.cells e.cells 32)):=Ar.new _ _;have q:(h.new (.cells e.cells 32)).get h.next=some (.cells e.cells 32):=Ad _ _
 have E:HB (h.new (.cells e.cells 32)):=hb.new _;have s1:=s.ext x1;have n1:(h.new (.cells e.cells 32)).next=h.next+1:=rfl
 generalize h.new (.cells e.cells 32)=h1 at x1 q E s1 n1⊢;have nx:¬G h.next:=fun y=>bO _ (s.lt _ y)
 obtain⟨V,M,qc,qh,cs,hs,ms,F,a⟩:=s1.Ow;have lD:=E _ _ a.Dr;have l3:=E _ _ q;have el:=Yb.len w;rw[Jb lD,Cs a.Dr rfl]
 try simp only[Ab,Au]
 rw[Jb l3,Cr q rfl (Ak el)]
 try simp only[Ab,Au]
 rw[Aa8 (v:=.agg e.cells) (z:=List.replicate 4 (EV.int .i64 0)++List.replicate 64 (EV.int .u8 0)) rfl (by simp) el (by omega),As];obtain⟨h2,e_,U,gx,n2⟩:=nW h1 (.cells (EV.cells (.agg e.cells)) 32);rw[e_];have t:=U.hb E;have q:=U.at E q;have s2:=s1.ext U;have B:=a.frame U.next fun i O=>U.get i (s1.lt i O) id
 have r2:Cj h2.lift hs qh 32 68 S.Pp.length (S.Pp.map Yb.cells).flatten:=B.Aq9.frame fun _=>By _ _
 obtain⟨h3,e3,r3,n3,c3⟩:=Yx (x:=.slice h1.next 0 1 1 false) (n:=1) r2 rfl (by omega) (by omega) (by omega) (V6 (b:=h1.next) (by rw[By];exact gx) el) (by rw[el]);refine Ok.bC (S:=fun i=>0<S.Pp.length/\i=qh) (P:=fun v h'=>v=.slice h2.lift.next 0 (S.Pp.length+1) (S.Pp.length+1) true/\h'=h3) ⟨_,_,e3,rfl,rfl⟩ (fun _ _ p=>by rw[p.2];exact c3) ?_;rintro _ _ h4 s' ⟨rfl,rfl⟩ sm x4 a3;have T:=x4.hb t;rw[Ait]at r3 n3;rw[Ait];have a4:¬(0<S.Pp.length/\D=qh):=fun y=>Bb B.Dr (B.Aq9.block y.1) (by simp) y.2
 have gD:h4.get D=some (.cells [.ptr V 0,cs,hs,.map M] 143):=Ar.at x4 t B.Dr a4;have r4:Cj h4 (.slice h2.next 0 (S.Pp.length+1) (S.Pp.length+1) true) h2.next 32 68 (S.Pp.length+1) ((S.Pp.map Yb.cells).flatten++e.cells):=r3.frame fun _=>sm.get _
 have q:h4.get h.next=some (.cells e.cells 32):=Ar.at x4 t q fun y=>by
  have:=B.Aq9.block y.1;exact Bb q this (by simp) y.2
 have W:=T _ _ gD
 try simp only[Ab]
 rw[J6 (by rcases a3 with rfl|⟨w,rfl,_⟩<;>kernel_rfl)];refine Ok.st1 gD rfl rfl (by show 2<4;decide) ?_;simp only[List.set];have a6:=T _ _ q;have ah:h2.next<h4.next:=by
  have:=r4.block (by omega);exact T _ _ this
 have H:(h4.put D (.cells [EV.ptr V 0,cs,.slice h2.next 0 (S.Pp.length+1) (S.Pp.length+1) true,.map M] 143)).get D=some (.cells [EV.ptr V 0,cs,.slice h2.next 0 (S.Pp.length+1) (S.Pp.length+1) true,.map M] 143):=Ae _ _ _;have k5:∀i,i≠D->(h4.put D (.cells [EV.ptr V 0,cs,.slice h2.next 0 (S.Pp.length+1) (S.Pp.length+1) true,.map M] 143)).get i=h4.get i:=fun i O=>Af _ (cP O)
 have n5:(h4.put D (.cells [EV.ptr V 0,cs,.slice h2.next 0 (S.Pp.length+1) (S.Pp.length+1) true,.map M] 143)).next=h4.next:=rfl
 have u:HB (h4.put D (.cells [EV.ptr V 0,cs,.slice h2.next 0 (S.Pp.length+1) (S.Pp.length+1) true,.map M] 143)):=T.put W _;have c5:Ar (Bf G h1 h2) h2 (h4.put D (.cells [EV.ptr V 0,cs,.slice h2.next 0 (S.Pp.length+1) (S.Pp.length+1) true,.map M] 143)):=(x4.mono (fun i O=>.inl (by rw[O.2];exact B.sub.2.2.2.2 O.1))).Aq (.inl (.inl a.sub.2.1)) W _;generalize h4.put D (.cells [EV.ptr V 0,cs,.slice h2.next 0 (S.Pp.length+1) (S.Pp.length+1) true,.map M] 143)=f at H k5 n5 u c5⊢;have aj:h.next≠D:=fun y=>nx (y▸a.sub.2.1)
 have q:f.get h.next=some (.cells e.cells 32):=by rw[k5 _ aj];exact q
 have al:D<f.next:=by rw[n5];exact W
 have ao:h.next<f.next:=by rw[n5];exact a6
 have a5:Ae6 f D V M qc h2.next cs (.slice h2.next 0 (S.Pp.length+1) (S.Pp.length+1) true) ms ⟨S.dv,S.ev,S.Pp++[e]⟩ F (Bf G h2 f):=by
  refine B.own t H ?_ ?_ c5.next (fun i O h1 _ h3=>?_) s2.lt (fun y=>.inr ⟨rfl,y⟩) (fun _=>.inl ⟨aE _,by rw[n5];exact ah⟩) (fun y _=>?_)
  ·refine B.Jj.frame fun y=>?_
   have gc:=B.Jj.block y;rw[k5 _ (Bb gc B.Dr (by simp)),Ar.at x4 t gc fun z=>B.apart.2.2.2.2 y z.1 z.2,gc]
  ·rw[aG,cS,dX]
   show Cj f _ _ 32 68 (S.Pp.length+1) ((S.Pp.map Yb.cells).flatten++(e.cells++[]));rw[dE];exact r4.frame fun _=>k5 _ (by have:=t _ _ B.Dr;omega)
  ·rw[k5 i h1]
   exact x4.get i O fun y=>h3 y.1 y.2
  ·have:=t _ _ (B.Jj.block y);omega
 have a7:∀i,Bf G h2 f i->i<f.next:=Bf.lt s2.lt c5.next
 have s5:F0 f D ⟨S.dv,S.ev,S.Pp++[e]⟩ (Bf G h2 f):=by
  refine⟨a7,⟨by rw[aG];show S.ev.length+(S.Pp.length+1)<=200;omega,s.wf.wf,fun x hx=>?_⟩,V,M,qc,_,cs,_,ms,F,a5⟩;rcases bJ.1 hx with hx|hx
  ·exact s.wf.hwf x hx
  ·rw[aM.1 hx];exact w
 have aw:Ar G h f:=((Ext.to x1).trans (Ext.to U)).then c5 fun j hj hl=>by
  rcases hj with y|y
  ·exact y
  ·omega
 have cG:∀o,f.next<=o.next->Ar (Bf G h2 f) f o->Ar G h o:=fun o l c=>aw.then c fun j hj hl=>by
  rcases hj with y|y
  ·exact y
  ·have:=x1.next;have:=U.next;omega
 have fin:∀(o:Aa) (dv:Dv),F0 o D ⟨dv,S.ev,S.Pp++[e]⟩ (Bf (Bf G h2 f) f o)->Ar (Bf G h2 f) f o->HB o->dv=S.dv.Se e->Ok (some (.tuple [],o)) fun v h'=>F0 h' D ⟨S.dv.Se e,S.ev,S.Pp++[e]⟩ (Bf G h h')/\Ar G h h'/\HB h':=fun o dv X C J he=>by
  subst he;refine .ret ⟨X.mono (fun i O=>?_) (Bf.lt s.lt (cG o C.next C).next),cG o C.next C,J⟩;rcases O with(y|y)|y
  ·exact .inl y
  ·have:=x1.next;have:=U.next;have:=C.next;exact .inr ⟨by omega,by omega⟩
  ·exact .inr ⟨by have:=aw.next;omega,y.2⟩
 obtain⟨_,e1,e2,_⟩:=e.one;rw[Al q rfl e1];simp only[Ac,I];have L:∀st:Nat,S.dv.fail e.Ah st=S.dv.Se e ->
  Ok (L6 6 63 (((DX.ld ⟨0,[],[],[],[]⟩ 3 D).ld 5 h.next)) f (fun h=>Om K (.ptr V 0) (I e.Ah) (I st) h) fun _ h s=>some (.tuple [],h)) fun v h'=>F0 h' D ⟨S.dv.Se e,S.ev,S.Pp++[e]⟩ (Bf G h h')/\Ar G h h'/\HB h':=by
  intro st ba;refine Ok.bC (S:=F) (A76 (K:=K) a5.dev.lift (Dg u) e.Ah st) (fun _ _ p=>p.2.1) ?_;rintro _ h6 o s' ⟨d6,_,bb⟩ sm C _;obtain⟨X,Y,_⟩:=s5.call a5 u d6 sm C;exact fin o _ X Y (sm.hb bb) ba
 by_cases k1:e.kind=1
 ·simp only[k1,aB,Ab]
  rw[Cr q rfl (Ak el)];refine(A4u (K:=K) A hK (by omega) s5 u w).Ap ?_;rintro _ o ⟨X,C,J⟩;exact fin o _ X C J (by unfold Dv.Se;rw[aH k1])
 ·simp only[k1,aA,Ab]
  by_cases k2:e.kind=2
  ·simp only[k2,aB,Ab,Au]
   rw[Jb al,Cs H rfl]
   try simp only[Ab,Au]
   rw[Jb ao,Al q rfl e2];exact L 3 (by unfold Dv.Se;rw[aF k1,aH k2])
  ·simp only[k2,aA,Ab]
   by_cases k3:e.kind=3
   ·simp only[k3,aB,Ab,Au]
    rw[Jb al,Cs H rfl]
    try simp only[Ab,Au]
    rw[Jb ao,Al q rfl e2];exact L 4 (by unfold Dv.Se;rw[aF k1,aF k2,aH k3])
   ·simp only[k3,aA,Ab]
    by_cases k4:e.kind=4
    ·simp only[k4,aB,Ab,Cs H rfl]
     refine(A3f (K:=K) a5.dev u).Ap ?_;rintro _ o ⟨d9,C,J⟩;obtain⟨X,Y⟩:=s5.put a5 u (d9.grow a5.dev.lt C.next) C;exact fin o _ X Y J (by unfold Dv.Se;rw[aF k1,aF k2,aF k3,aH k4])
    ·simp only[k4,aA,Ab]
     exact fin f S.dv (s5.grow s5.lt (aE _)) (Ar.refl _) u (by unfold Dv.Se;rw[aF k1,aF k2,aF k3,aF k4])
theorem Bfj(q o n r:Nat)(op:Bool)(k:EV->R):Kk Al0 (bin TT .eql 141) (.slice q o n r op) .Ao k=k (.bool false):=by kernel_rfl
theorem A80(q o z:Nat)(k:EV->R):Kk Al0 (bin TT .eql 141) (.tail q o z) .Ao k=k (.bool false):=by kernel_rfl
theorem A2k{q:Nat}(w:∀x∈e::ev,x.Wf)(L:ev.length<=65000)(B:h.get q=some (.vec ((e::ev).map Yb.cells).flatten 32 68))(hb:HB h){o:EV->Aa->R}
 (t:∀v h' q',Cj h' v q' 32 68 ev.length (ev.map Yb.cells).flatten->Ext h h'->(0<ev.length->h.next<=q')->Ok (o v h') Q) :
 Ok (Ah3 68 (.slice q 0 (e::ev).length (e::ev).length true) (some (.int .i64 1)) none none fun v=>Ap (Di K v h) o) Q:=by
 have a:Ext h (h.new (.cells [] 32)):=Ar.new _ _;have u:Bx (List.replicate 4 (.int .i64 0)++List.replicate 64 (.int .u8 0)) 32 68 0 [] h=some (.slice h.next 0 0 0 false,h.new (.cells [] 32)):=rfl;have wl:∀x∈ev.map Yb.cells,x.length=68:=fun x C=>by
  obtain⟨y,E,rfl⟩:=cA.1 C;exact Yb.len (w y (aR _ E))
 have fl:(ev.map Yb.cells).flatten.length=ev.length*68:=by rw[Aor _ wl,bZ]
 rcases dC ev.length with h0|hp
 ·have:ev = []:=cM.1 h0
  subst this;have e1:∀k:EV->R,Ah3 68 (.slice q 0 [e].length [e].length true) (some (.int .i64 1)) none none k=k (.tail q 68 0):=fun k=>rfl
  rw[e1];simp only[Di,A80,Ab,Fx];rw[u,As];have:D9 32 68 (.slice h.next 0 0 0 false) (.tail q 68 0) (h.new (.cells [] 32))=some (.slice h.next 0 0 0 false,h.new (.cells [] 32)):=by unfold D9;rfl
  rw[this,As]
  try simp only[Ab]
  exact t _ _ 0 (.empty _ _ _ _ _) a fun y=>absurd y (bO _)
 ·obtain⟨m,hm⟩:∃m,ev.length=m+1:=⟨ev.length-1,by omega⟩
  have e1:∀k:EV->R,Ah3 68 (.slice q 0 (e::ev).length (e::ev).length true) (some (.int .i64 1)) none none k=k (.slice q 68 ev.length ev.length true):=fun k=>by
   rw[bF,hm];rfl
  rw[e1];simp only[Di,Bfj,Ab,Fx];rw[u,As];have H:Oq (h.new (.cells [] 32)) 68 ev.length (.slice q 68 ev.length ev.length true)=some (ev.map Yb.cells).flatten:=by
   show Ba (Nat.beq ev.length 0) (some []) (Xy _ q 68 (Nat.mul ev.length 68))=_;rw[show Nat.beq ev.length 0=false by rw[hm];rfl,Bl];unfold Xy Ash;rw[a.at hb B];have el:=Yb.len (w e (aW ..));show Mo (e.cells++(ev.map Yb.cells).flatten) 68 (ev.length*68)=_;rw[E7 (by rw[aG,el,fl];exact aE _),<-el,fm,bQ (by rw[fl,el];exact aE _)]
  have ap:=Wg (h:=h.new (.cells [] 32)) (b:=h.next) (e:=32) (x:=.slice q 68 ev.length ev.length true) rfl (by omega) H fl 0;rw[show ∀(x:R) (k f:EV->Aa->R),Ap (Ap x k) f=Ap x fun v h=>Ap (k v h) f from fun x k f=>by cases x<;>rfl];refine ap.Ap ?_;rintro v h2 ⟨q',r,J,l⟩;rw[As];exact t v h2 q' r (a.trans J) fun y=>by have:=l y;have:=a.next;omega
theorem Bgv(A:Bv disp)(hK:1000<K)(hd:9<=d):∀(m:Nat) (S:Jp) (h:Aa) (G:Nat->Prop),S.ev.length<m->F0 h D S G->HB h ->
 Ok (Jx (Ag TT disp K d false) (Ag TT disp K d true) K m (.ptr D 0) h) fun v h'=>F0 h' D S.due (Bf G h h')/\Ar G h h'/\HB h':=by
 intro m;induction m with
 | zero=>intro S h G hm;omega
 | succ m ih=>
  intro S h G hm s hb;obtain⟨V,M,qc,qh,cs,hs,ms,F,a⟩:=s.Ow;obtain⟨zl,z,q,b,_⟩:=a.dev.Ow;have lD:=hb _ _ a.Dr;have lV:=hb _ _ b.dev;have stay:S.due=S->Ok (some (.tuple [],h)) fun(_:EV) h'=>F0 h' D S.due (Bf G h h')/\Ar G h h'/\HB h':=fun y=>by
   rw[y];exact .ret ⟨s.grow s.lt (aE _),Ar.refl _,hb⟩
  simp only[Jx,Ab,Au,Cm lD,Cs a.Dr rfl];have O:Sl K (.ptr V 0) h.lift=some (.bool S.dv.down,h.lift):=by
   simp only[Sl,Ab,Cs b.lift.dev rfl]
  rw[Auf O];obtain⟨dv,ev,Pp⟩:=S;simp only at a O b hm⊢;cases T:dv.down with
  | true=>
   simp only[Ab,Ac,Au,Nh,J0];refine stay ?_;unfold Jp.due;cases ev with
   | nil=>rfl
   | cons e r=>unfold Awu;rw[aH (.inl T)]
  | false=>
   simp only[Ab,Ac,Au];rw[Jb lD,Cs a.Dr rfl];simp only[Ab,a.Jj.H5,Ac];cases ev with
   | nil=>
    simp only[fF,Nh,J0,Ab,Ac];exact stay rfl
   | cons e r=>
    have we:=s.wf.wf e (aW ..);have el:=Yb.len we;have gq:=a.Jj.block (Nat.succ_pos _);have lq:=hb _ _ gq;have c0:Mo (((e::r).map Yb.cells).flatten) 0 68=some e.cells:=by
     show Mo (e.cells++_) 0 68=_;rw[E7 (by rw[aG,el];omega),dF,<-el,eW]
    have ah:(((e::r).map Yb.cells).flatten)[0]? = some (I e.Ow):=rfl;rw[aP (show(0:Int)<((e::r).length:Int) by rw[bF];omega)];simp only[Nh,Ab,Ac,Au];rw[Jb lD,Cs a.Dr rfl]
    try simp only[Ab,Au]
    rw[show ∀k:EV->R,Aac 68 cs (.int .i64 0) k=k (.ptr qc (0*68))from fun k=>a.Jj.ix (Nat.succ_pos _) .i64 k]
    try simp only[Ab,Au]
    rw[Jb lq,Al gq rfl ah]
    try simp only[Ab,Au]
    rw[Jb lD,Cs a.Dr rfl]
    try simp only[Ab,Au]
    have ai:Qy K (.ptr V 0) h.lift=some (I dv.cnt,h.lift):=by
     simp only[Qy,Ab,Cs b.lift.dev rfl]
    rw[Auf ai];simp only[I,Ac];by_cases B:e.Ow<=dv.cnt
    ·rw[aP B]
     simp only[J0,Ab,Afq,Cs a.Dr rfl];rw[show ∀k:EV->R,Aac 68 cs (.int .i64 0) k=k (.ptr qc (0*68))from fun k=>a.Jj.ix (Nat.succ_pos _) .i64 k];rw[Cr gq rfl c0]
     try simp only[Ab]
     have aj:(List.replicate 4 (EV.int .i64 0)++List.replicate 64 (EV.int .u8 0)).length=68:=by simp
     refine Ok.st e.cells (Ad _ _) rfl (by show Fz e.cells=68;rw[Bc,el]) (Bk (by rw[aj];exact el.symm)) ?_;obtain⟨E,e_,L,g2,_⟩:=nP h (.cells (List.replicate 4 (EV.int .i64 0)++List.replicate 64 (EV.int .u8 0)) 32) (.cells e.cells 32);rw[e_];have f:=L.hb hb;have s1:=s.ext L;have o:=a.frame L.next fun i t=>L.get i (s.lt i t) id
     have ao:=o.Jj.block (Nat.succ_pos _);have aq:=o.Jj.slice (Nat.succ_pos _);subst aq;simp only[Ab,Cs o.Dr rfl];have au:=s.wf.ev;refine A2k (K:=K) s.wf.wf (by simp only[bF]at au;omega) ao f ?_;intro v h2 q' r2 u H;have J:=u.hb f;have s2:=s1.ext u;have a2:=o.frame u.next fun i t=>u.get i (s1.lt i t) id
     have g2:=u.at f g2
     try simp only[Ab]
     have U:=J _ _ a2.Dr;refine Ok.st1 a2.Dr r2.plain.1 r2.plain.2 (by show 1<4;decide) ?_;simp only[List.set];have W:(h2.put D (.cells [EV.ptr V 0,v,hs,.map M] 143)).get D=some (.cells [EV.ptr V 0,v,hs,.map M] 143):=Ae _ _ _;have k3:∀i,i≠D->(h2.put D (.cells [EV.ptr V 0,v,hs,.map M] 143)).get i=h2.get i:=fun i t=>Af _ (cP t)
     have X:HB (h2.put D (.cells [EV.ptr V 0,v,hs,.map M] 143)):=J.put U _;have c3:Ar G h2 (h2.put D (.cells [EV.ptr V 0,v,hs,.map M] 143)):=(Ar.refl h2).Aq (.inl a.sub.2.1) U _;have n3:(h2.put D (.cells [EV.ptr V 0,v,hs,.map M] 143)).next=h2.next:=rfl
     generalize h2.put D (.cells [EV.ptr V 0,v,hs,.map M] 143)=C at W k3 X c3 n3⊢;have nD:h.next≠D:=by omega
     have g3:C.get h.next=some (.cells e.cells 32):=by rw[k3 _ nD];exact g2
     have rb:0<r.length->q'<h2.next:=fun y=>J _ _ (r2.block y)
     have a3:Ae6 C D V M q' qh v hs ms ⟨dv,r,Pp⟩ F (Bf G E C):=by
      have aw:E.next<=C.next:=by rw[n3];exact u.next
      have Y:∀i,i<E.next->i≠D->C.get i=E.get i:=fun i t ax=>by rw[k3 i ax,u.get i t id]
      refine o.own f W (r2.frame fun y=>k3 _ (by have:=H y;have:=f _ _ o.Dr;omega)) (o.Aq9.frame fun y=>Y _ (f _ _ (o.Aq9.block y)) (Bb (o.Aq9.block y) o.Dr (by simp))) aw (fun i t E _ _=>Y i t E) s1.lt
       (fun y=>.inl ⟨H y,by rw[n3];exact rb y⟩) (fun y=>.inr ⟨rfl,y⟩) fun y z=>?_
      have:=H y;have:=f _ _ (o.Aq9.block z);omega
     have ay:Ar G h C:=((Ext.to L).trans (Ext.to u)).trans c3;have s3:F0 C D ⟨dv,r,Pp⟩ (Bf G E C):=by
      refine⟨Bf.lt s1.lt (by rw[n3];exact u.next),⟨?_,fun x hx=>s.wf.wf x (aR _ hx),s.wf.hwf⟩,V,M,q',qh,v,hs,ms,F,a3⟩;have:=s.wf.ev;simp only[bF]at this⊢;omega
     rw[Cr g3 rfl (Ak el)];refine(Be0 (K:=K) A hK (by omega) s3 X we (by have:=s.wf.ev;simp only[bF]at this⊢;omega)).Ap ?_;rintro _ h4 ⟨s4,c4,az⟩;have aa:(Jp.mk dv (e::r) Pp).due=(Jp.mk (dv.Se e) r (Pp++[e])).due:=by
      unfold Jp.due
      conv=>lhs;unfold Awu
      rw[aF (by rw[T];rintro(y|y);exact absurd y (by simp);exact y B)]
     rw[aa];refine(ih ⟨dv.Se e,r,Pp++[e]⟩ h4 _ (by simp only[bF]at hm⊢;omega) s4 az).mono ?_;rintro _ h5 ⟨s5,c5,a0⟩;have t1:=L.next
     have t2:=u.next
     have t4:=c4.next
     have t5:=c5.next
     have a4:Ar G h h4:=ay.then c4 fun j hj hl=>by
      rcases hj with y|y
      ·exact y
      ·omega
     have ab:Ar G h h5:=a4.then c5 fun j hj hl=>by
      rcases hj with(y|y)|y
      ·exact y
      ·omega
      ·omega
     refine⟨s5.mono (fun i t=>?_) (Bf.lt s.lt ab.next),ab,a0⟩;rcases t with((y|y)|y)|y
     ·exact .inl y
     ·exact .inr ⟨by omega,by omega⟩
     ·exact .inr ⟨by omega,by omega⟩
     ·exact .inr ⟨by omega,y.2⟩
    ·rw[aO B]
     simp only[J0,Ab];refine stay ?_;unfold Jp.due Awu;rw[aH (.inr B)]
theorem A4q(A:Bv disp)(hK:1000<K)(S:Jp):∀d,12<=d->Bm8 disp K d S:=by
 intro d hd h D G s hb;obtain⟨e,rfl⟩:∃k,d=k+1:=⟨d-1,by omega⟩;rw[Ar3 A (by omega)];exact Bgv (K:=K) A hK (by omega) K S h G (by have:=s.wf.ev;omega) s hb
section
def Out(F:Nat->Prop)(h:Aa):Nat->Prop:=fun i=>i<h.next/\¬F i
abbrev Kf(F:Nat->Prop):Aa->Aa->Prop:=Ar fun i=>¬F i
theorem Ar.kf(c:Ar (Out F h) h h'):Kf F h h':=c.mono fun _ y=>y.2
theorem Ext.kf(c:Ext h h'):Kf F h h':=Ext.to c
theorem Kf.less(c:Kf F h h')(s:∀i,F' i->F i):Kf F' h h':=c.mono fun i y z=>y (s i z)
theorem Kf.at(c:Kf F h h')(hb:HB h){o:Dt}(g:h.get i=some o)(a:F i):h'.get i=some o:=Ar.at c hb g fun y=>y a
theorem Ext.Ar5{a h2:Aa}(x:Ext h a)(c:Kf (Bf F h a) a h2):Kf F h h2:=by
 refine(Ext.to (S:=fun i=>¬F i) x).then c fun i y f z=>y (.inl z)
theorem Rk.frame{H:Nat->Prop}(s:Rk h m S H)(n:h.next<=h'.next)(e:∀i,H i->h'.get i=h.get i):Rk h' m S H:=by
 obtain⟨lt,D,p,bl,ql,np,q,c,G,a⟩:=s;obtain⟨t1,t2,t3,t4,t5,t6⟩:=a.sub;have k:∀i o,h.get i=some o->H i->h'.get i=some o:=fun i o g f=>by rw[e i f];exact g
 exact⟨fun i f=>aK (lt i f) n,D,p,bl,ql,np,q,c,G,⟨k _ _ a.H9.H9 t2,k _ _ a.H9.Awv t3⟩,
  ⟨a.Gl.pos,k _ _ a.Gl.Gl t4,k _ _ a.Gl.row t5,fun d hd=>k _ _ (a.Gl.que d hd) (t6 d hd).1,fun d hd=>k _ _ (a.Gl.chan d hd) (t6 d hd).2,a.Gl.inj⟩,
  a.psz,a.drv.frame n fun i f=>e i (t1 i f),a.apart,a.sub⟩
structure Mi.Wp(S:Mi):Prop where
 sm:Sm S.g
 ps:∀d,d<S.g.D.toNat->∀x∈S.ps d,Bo S.g x=d/\¬S.bad x.toNat=1
structure Mi.Wf(S:Mi):Prop extends S.Wp where
 op:(S.a = -1/\S.b = -1)\/((0<=Bo S.g S.a/\¬S.bad S.a.toNat=1)/\(0<=Bo S.g S.b/\¬S.bad S.b.toNat=1))
theorem Zt(s:Sm g){z:Int}(h:0<=Bo g z):Rng z:=by
 have f:=s.d1;have h2:=s.z1;have k:=s.d0;have h4:=s.z0;rcases I9 s z with y|⟨_,_,_,o,q⟩
 ·omega
 ·obtain⟨t,m1⟩:=Qi (a:=g.D) (b:=g.Z) (A:=8) (B:=64) (by omega) (by omega) (by omega) (by omega)
  exact⟨by omega,by omega⟩
theorem Je(s:Sm g){z:Int}(h:0<=Bo g z):0<=z:=by
 rcases I9 s z with y|⟨_,_,_,a,f⟩<;>omega
theorem Mi.Wf.rng(w:S.Wf):Rng S.a/\Rng S.b:=by
 rcases w.op with⟨f,h2⟩|⟨f,h2⟩
 ·rw[f,h2];exact⟨⟨by omega,by omega⟩,⟨by omega,by omega⟩⟩
 ·exact⟨Zt w.sm f.1,Zt w.sm h2.1⟩
theorem A1i(w:∀d,d<g.D.toNat->∀x∈ps d,Bo g x=d/\P x)(n:Nat)(z:Int)(f:0<=Bo g z->P z):∀d,d<g.D.toNat->∀x∈(U5 g n ps z).2 d,Bo g x=d/\P x:=by
 intro d hd x a;unfold U5 at a;split at a
 ·exact w d hd x a
 ·rename_i h0
  split at a
  ·exact w d hd x a
  ·split at a
   ·simp only[upd]at a
    split at a
    ·rename_i e
     subst e;rcases bJ.1 a with a|a
     ·exact w _ hd x a
     ·rw[aM.1 a];exact⟨by omega,f (by omega)⟩
    ·exact w d hd x a
   ·exact w d hd x a
theorem A2z(S:Mi)(z u:Int):(S.leave z u).1.g=S.g/\(S.leave z u).1.a=S.a/\(S.leave z u).1.b=S.b/\(S.leave z u).1.u=S.u/\(S.leave z u).1.bad=S.bad:=by
 unfold Mi.leave;split
 ·exact⟨rfl,rfl,rfl,rfl,rfl⟩
 ·split<;>exact⟨rfl,rfl,rfl,rfl,rfl⟩
theorem Mi.Wp.leave(w:S.Wp)(z u:Int):(S.leave z u).1.Wp:=by
 unfold Mi.leave;split
 ·exact w
 ·rename_i h0
  split
  ·refine⟨w.sm,A1i w.ps _ _ fun a y=>h0 (.inr (.inl ?_))⟩
   unfold Mi.Ex;rw[aP a,aP y];rfl
  ·exact⟨w.sm,w.ps⟩
theorem A3w(S:Mi):S.close.1.g=S.g/\S.close.1.a = -1/\S.close.1.b = -1/\S.close.1.u=0/\S.close.1.bad=S.bad:=by
 unfold Mi.close;obtain⟨f,k,o,q,t⟩:=A2z { S with a:=-1,b:=-1,u:=0 } S.a S.u;obtain⟨b1,b2,b3,b4,v⟩:=A2z (({ S with a:=-1,b:=-1,u:=0 }:Mi).leave S.a S.u).1 S.b S.u;exact⟨b1.trans f,b2.trans k,b3.trans o,b4.trans q,v.trans t⟩
theorem Mi.Wp.close(w:S.Wp):S.close.1.Wf:=by
 have:({ S with a:=-1,b:=-1,u:=0 }:Mi).Wp:=⟨w.sm,w.ps⟩;obtain⟨o,f,k,q,t⟩:=A3w S;exact { toWp:=(this.leave _ _).leave _ _,op:=.inl ⟨f,k⟩ }
theorem Mi.Wp.mark(w:S.Wp){z:Int}(o:0<=Bo S.g z):(S.mark z).Wp:=by
 refine⟨w.sm,fun d hd x a=>?_⟩;have a:x∈S.dropped z d:=a;unfold Mi.dropped at a;rw[aF (by omega)]at a;have key:∀x,Bo S.g x=d/\¬S.bad x.toNat=1->¬x=z->Bo S.g x=d/\¬(S.mark z).bad x.toNat=1:=fun x a q=>by
  refine⟨a.1,?_⟩;show ¬(if x.toNat=z.toNat then(1:Int)else S.bad x.toNat)=1;have f:=Je w.sm o;have h2:=Je w.sm (z:=x) (by rw[a.1];omega);rw[aF (by omega)];exact a.2
 simp only[upd]at a;split at a
 ·rename_i e
  have h2:=(dS.1 a).2;have f:=w.ps d hd x (by rw[e];exact(dS.1 a).1);exact key x f (dI h2)
 ·rename_i k
  have f:=w.ps d hd x a;refine key x f fun y=>k ?_
  subst y;omega
theorem Mi.Wf.Ce(w:S.Wf)(z:Int):(S.Ce z).1.Wf:=by
 unfold Mi.Ce;split
 ·exact w
 ·rename_i a
  have a:0<=Bo S.g z:=by omega
  split
  ·exact w
  ·split
   ·rename_i f
    refine { toWp:=w.toWp.mark a,op:=?_ };rcases w.op with y|⟨o,q⟩
    ·exact .inl y
    ·have key:∀x,(0<=Bo S.g x/\¬S.bad x.toNat=1)->¬z=x->0<=Bo S.g x/\¬(S.mark z).bad x.toNat=1:=fun x k f=>by
      refine⟨k.1,?_⟩;show ¬(if x.toNat=z.toNat then(1:Int)else S.bad x.toNat)=1;have t:=Je w.sm a;have h2:=Je w.sm k.1;rw[aF (by omega)];exact k.2
     exact .inr ⟨key _ o f.1,key _ q f.2⟩
   ·exact(w.toWp.mark a).close
theorem Aix{ps':Nat->List Int}{x y:Int}(w:∀d,d<g.D.toNat->∀x∈ps d,Bo g x=d/\P x)(h:Aer ps g.D.toNat=some (x,y,ps')):
 ∃a b:Nat,a<g.D.toNat/\b<g.D.toNat/\a≠b/\ps a=x::ps' a/\ps b=y::ps' b/\(∀d,d≠a->d≠b->ps' d=ps d)/\D6 ps (-1) g.D.toNat=a/\D6 ps a g.D.toNat=b/\(Bo g x=a/\P x)/\(Bo g y=b/\P y):=by
 unfold Aer at h;split at h
 ·cases h
 ·rename_i hp
  obtain⟨a,b,e1,e2,B,h2,C,h4,E⟩:=A1h hp Ap5;rw[e1,e2]at h;injection h with h;injection h with k h;injection h with o f;simp only[bD]at k o f;obtain⟨H,r,q⟩:∃x r,ps a=x::r:=by cases u:ps a with|nil=>exact absurd u h4|cons x r=>exact⟨x,r,rfl⟩
  obtain⟨J,t,v⟩:∃x r,ps b=x::r:=by cases u:ps b with|nil=>exact absurd u E|cons x r=>exact⟨x,r,rfl⟩
  rw[q]at k f;rw[v]at o f;simp only[List.headD_cons,List.tail_cons]at k o f;subst k;subst o;subst f;refine⟨a,b,B,h2,C,?_,?_,fun d d1 d2=>?_,e1,e2,w a B _ (by rw[q];exact aW ..),w b h2 _ (by rw[v];exact aW ..)⟩
  ·rw[q];simp[upd,C]
  ·rw[v];simp[upd]
  ·simp[upd,d1,d2]
theorem Mi.Wf.ready(w:S.Wf):S.ready.1.Wf:=by
 unfold Mi.ready;split
 ·exact w
 ·split
  ·exact { toWp:=⟨w.sm,w.ps⟩,op:=w.op }
  ·cases hp:Aer S.ps S.g.D.toNat with
   | none=>exact { toWp:=⟨w.sm,w.ps⟩,op:=w.op }
   | some t=>
    obtain⟨x,y,ps'⟩:=t;obtain⟨a,b,B,h2,C,k,o,q,_,_,u,v⟩:=Aix w.ps hp;refine { toWp:=⟨w.sm,fun d hd z f=>?_⟩,op:=.inr ⟨⟨by show 0<=Bo S.g x;omega,u.2⟩,⟨by show 0<=Bo S.g y;omega,v.2⟩⟩ };have f:z∈ps' d:=f;refine w.ps d hd z ?_;by_cases d1:d=a
    ·subst d1;rw[k];exact aR _ f
    ·by_cases d2:d=b
     ·subst d2;rw[o];exact aR _ f
     ·rw[q d d1 d2]at f;exact f
structure Cv(h:Aa)(m:Nat)(S:Mi)(F:Nat->Prop):Prop where
 s:Rk h m S (Out F h)
 lt:∀i,F i->i<h.next
 wf:S.Wf
section
variable{S':Mi}
theorem Cv.made(M:Cv h m S F)(s:Rk h' m S' (Bf (Out F h) h h'))(c:Ar (Out F h) h h')(w:S'.Wf):Cv h' m S' F/\Kf F h h':=by
 refine⟨⟨s.mono (fun i a=>?_) fun i a=>a.1,fun i a=>aK (M.lt i a) c.next,w⟩,c.kf⟩;rcases a with a|a
 ·exact⟨aK a.1 c.next,a.2⟩
 ·exact⟨a.2,fun y=>by have:=M.lt i y;omega⟩
theorem Cv.ext(M:Cv h m S F)(hb:HB h)(x:Ext h h'):Cv h' m S (Bf F h h'):=by
 refine⟨(M.s.ext hb x).mono (fun i a=>⟨aK a.1 x.next,fun y=>?_⟩) fun i a=>a.1,Bf.lt M.lt x.next,M.wf⟩;rcases y with y|y
 ·exact a.2 y
 ·have:=a.1;omega
theorem Cv.less(M:Cv h m S F)(s:∀i,F' i->F i):Cv h m S F':=
 ⟨M.s.mono (fun i a=>⟨a.1,fun y=>a.2 (s i y)⟩) fun i a=>a.1,fun i a=>M.lt i (s i a),M.wf⟩
theorem Cv.Ahr {T:Nat->Prop}(M:Cv h m S F)(c:Ar T h h')(t:∀i,T i->i<h.next->F i):Cv h' m S F:=by
 refine⟨(M.s.frame c.next fun i a=>c.get i a.1 fun y=>a.2 (t i y a.1)).mono (fun i a=>⟨aK a.1 c.next,a.2⟩) fun i a=>a.1,fun i a=>aK (M.lt i a) c.next,M.wf⟩
theorem Cv.same(M:Cv h m S F)(sm:Al4 h h'):Cv h' m S F:=
 ⟨(M.s.frame (by rw[sm.next];exact aE _) fun i _=>sm.get i).mono (fun i a=>⟨by rw[sm.next];exact a.1,a.2⟩) fun i a=>a.1,fun i a=>by rw[sm.next];exact M.lt i a,M.wf⟩
end
section
variable (A:Bv disp)(hK:10000<K)(M:Cv h m S F)(hb:HB h)
include A hK M hb
theorem Bpe(n:Nat):At2 disp K n:=fun T _ d hd=>A4q A (by omega) T d hd
theorem Bf4(hd:16<=d):Ok (Ag TT disp K d false 147 [.ptr m 0] h) fun v h'=>v=I S.ready.2/\Cv h' m S.ready.1 F/\Kf F h h'/\HB h':=by
 refine(Awz A hK hd (Bpe A hK M hb S.dr.ev.length) (aE _) M.s hb).mono ?_;rintro v h' ⟨e,s,c,a⟩;obtain⟨f,k⟩:=M.made s c M.wf.ready;exact⟨e,f,k,a⟩
theorem Ani(hd:18<=d){z:Int}(f:Rng z):Ok (Ag TT disp K d false 134 [.ptr m 0,I z] h) fun v h'=>v=I (S.Ce z).2/\Cv h' m (S.Ce z).1 F/\Kf F h h'/\HB h':=by
 refine(Anx A hK hd (Bpe A hK M hb S.dr.ev.length) (aE _) M.s hb M.wf.rng.1 M.wf.rng.2 f).mono ?_;rintro v h' ⟨e,s,c,a⟩;obtain⟨o,k⟩:=M.made s c (M.wf.Ce z);exact⟨e,o,k,a⟩
end
end
theorem F0.lift{S:Jp}(d:F0 h D S G):F0 h.lift D S G:=d.frame (aE _) fun i _=>By h i
theorem F0.same {a h4:Aa}{S:Jp}(d:F0 a D S (Bf G h.lift a))(sm:Al4 a h4):F0 h4 D S (Bf G h h4):=by
 refine(d.frame (h':=h4) (by rw[sm.next];exact aE _) fun j _=>sm.get j).mono (fun j hj=>?_) fun j hj=>?_
 ·rcases hj with y|y
  ·exact .inl y
  ·exact .inr ⟨y.1,by rw[sm.next];exact y.2⟩
 ·rw[sm.next]
  rcases hj with y|y
  ·exact d.lt _ (.inl y)
  ·rw[sm.next]at y;exact y.2
theorem Cv.drv{p bl ql np:Nat}{q c:Nat->Nat}{dr:Jp}(M:Cv h m S F)(hb:HB h)(a:Aq0 h m D p bl ql np q c S G (Out F h))(d:F0 h' D dr (Bf G h h'))(f:Ar G h h'):
 Cv h' m { S with dr:=dr } F/\Kf F h h':=by
 have cH:=f.mono a.sub.1;exact M.made ⟨Bf.lt M.s.lt cH.next,D,p,bl,ql,np,q,c,_,a.A81 hb d f⟩ cH { toWp:=⟨M.wf.sm,M.wf.ps⟩,op:=M.wf.op }
noncomputable def Mi.put(S:Mi)(e:En)(Ah Ay Am seq:Int):Mi × Int:=
 if ¬(Ee { e with Ay:=Ay } Ah S.u Am seq).2=0 then(S,(Ee { e with Ay:=Ay } Ah S.u Am seq).2)else
 ({ S with dr:=(S.dr.append Ah (Bj (Qe (Ee { e with Ay:=Ay } Ah S.u Am seq).1))).1 },
  if(S.dr.append Ah (Bj (Qe (Ee { e with Ay:=Ay } Ah S.u Am seq).1))).2.2=0/\¬(S.dr.append Ah (Bj (Qe (Ee { e with Ay:=Ay } Ah S.u Am seq).1))).2.1=S.u then 30 else(S.dr.append Ah (Bj (Qe (Ee { e with Ay:=Ay } Ah S.u Am seq).1))).2.2)
theorem Aq6:List.replicate 5 (EV.int .i64 0)++List.replicate 44 (EV.int .u8 0)=Fr.zero.cells:=by kernel_rfl
theorem Bcg(A:Bv disp)(hK:10000<K)(hd:16<=d)(M:Cv h m S F)(hb:HB h){e:En}(w:e.Wf)(Ah Ay Am seq:Int):
 Ok (Ag TT disp K d false 177 [.ptr m 0,.agg e.cells,I Ah,I Ay,I Am,I seq] h) fun v h'=>v=I (S.put e Ah Ay Am seq).2/\Cv h' m (S.put e Ah Ay Am seq).1 F/\Kf F h h'/\HB h':=by
 obtain⟨dd,rfl⟩:∃k,d=k+1:=⟨d-1,by omega⟩;rw[Al2 A (by omega)];have w':({ e with Ay:=Ay }:En).Wf:=⟨w.len,w.u8⟩;have el:=En.Bm w;have O:=En.Bm w';obtain⟨_,D,p,bl,ql,np,q,c,G,a⟩:=M.s;simp only[Agf,Ab];refine Ok.st1 (Ad _ _) rfl rfl (by show 5<e.cells.length;omega) ?_;obtain⟨h1,T,x1,U,_⟩:=nP h (.cells e.cells 131) (.cells (e.cells.set 5 (I Ay)) 131);rw[T];have U:h1.get h.next=some (.cells ({ e with Ay:=Ay }:En).cells 131):=U
 unfold Mi.put;generalize ({ e with Ay:=Ay }:En)=e' at U w' O⊢;have B:=x1.hb hb;have l7:=B _ _ U;have m1:=a.H9.ext fun i o g=>x1.at hb g
 have lm:=B _ _ m1.H9;rw[Jb l7,Cw U rfl,Ak O]
 try simp only[Ab,Au]
 rw[Jb lm,m1.ou]
 try simp only[Au]
 refine Ok.bE (Ae4 (K:=K) w' (Dg B) hK Ah S.u Am seq) (fun _ _ p=>p.2) ?_;rintro _ a5 h2 ⟨rfl,_⟩ _ x2;have ag:=x2.hb B;have W:=Aul w' Ah S.u Am seq;generalize X:Ee e' Ah S.u Am seq=fe at W⊢;obtain⟨f,er⟩:=fe;have fl:=Fr.Bm W;have zl:=Fr.Bm Fr.Gs;simp only[Ab,Aq6,Au];rw[J6];refine Ok.st f.cells (Ad _ _) rfl (by show Fz f.cells=49;rw[Bc,fl]) (Bk (by rw[zl];exact fl.symm)) ?_;obtain⟨h3,T,x3,Y,_⟩:=nP h2 (.cells Fr.zero.cells 167) (.cells f.cells 167);rw[T];have t:=x3.hb ag;have C:Ext h h3:=(x1.trans x2).trans x3;simp only[I,Ac];by_cases he:er=0
 ·subst he
  simp only[aC,aA,Ab,ak,Zv];obtain⟨hf,ah,_,_⟩:=Asb w' (Ah:=Ah) (off:=S.u) (Am:=Am) (seq:=seq) (by rw[X]);rw[X]at hf;have hf:f=_:=hf;have ai:frB f=true:=by rw[hf];exact ah
  have m3:=a.H9.ext fun i o g=>C.at hb g
  have al:=t _ _ m3.H9;have ao:=t _ _ Y
  try simp only[Au]
  rw[Jb al,m3.table]
  try simp only[Ab,Au]
  rw[Jb ao,Cw Y rfl,Ak fl]
  try simp only[Ab,Au]
  refine Ok.bE (All (K:=K) W ai (Dg t) hK) (fun _ _ p=>p.2) ?_;rintro _ ba h4 ⟨rfl,_⟩ _ x4;have aq:=x4.hb t;have ul:(Bj (Qe f)).length=64:=by rw[Bg,Aol W]
  try simp only[Ab,Au]
  rw[J6];refine Ok.st (Bj (Qe f)) (Ad _ _) rfl (by show Fz (Bj (Qe f))=64;rw[Bc,ul]) (Bk (by rw[bV];exact ul.symm)) ?_;obtain⟨h5,T,x5,aa,_⟩:=nP h4 (.cells (List.replicate 64 (EV.int .u8 0)) 30) (.cells (Bj (Qe f)) 30);rw[T];have E:=x5.hb aq;have ab:Ext h h5:=(C.trans x4).trans x5;have M5:=M.ext hb ab;clear m3 m1 a;obtain⟨_,D,p,bl,ql,np,q,c,G,a⟩:=M5.s;have au:=E _ _ a.H9.H9;have aw:=E _ _ aa;simp only[Aay,Ab,Ac,I,aC,aA,Au];rw[Jb au,a.H9.Dr]
  try simp only[Ab,Au]
  rw[Jb aw,Cw aa rfl,Ak ul]
  try simp only[Ab,Au]
  refine Ok.bC (S:=G) (Aqh (K:=K) A (by omega) (d:=dd) (by omega) (fun k hk=>A4q A (by omega) S.dr k hk) a.drv.lift (Dg E) Ah ul ⟨_,Bbp W,rfl⟩) (fun _ _ p=>p.2.2.1) ?_;rintro _ h6 h7 s' ⟨rfl,d6,_,ax⟩ sm c7 _;have H:=sm.hb ax;obtain⟨J,k7⟩:=M5.drv E a (d6.same sm) c7;have L:Kf F h h7:=ab.Ar5 k7;have J:=J.less fun i (hi:F i)=>Or.inl hi
  generalize S.dr.append Ah (Bj (Qe f))=ap at J⊢;obtain⟨dr,off,er⟩:=ap;obtain⟨_,D,p,bl,ql,np,q,c,G,a⟩:=J.s;simp only[Ab,I,Ac];by_cases h0:er=0
  ·simp only[h0,aB,Ab,a.H9.ou,I,Ac,gG]
   by_cases h1:off=S.u
   ·simp only[h1,aC,aA,Ab,Mr,Mp,ak]
    exact .ret ⟨rfl,J,L,H⟩
   ·simp only[h1,aN,aB,Ab,Mr,Mp,bI]
    exact .ret ⟨rfl,J,L,H⟩
  ·simp only[h0,aA,Ab,Mr,Mp,gF,ak]
   exact .ret ⟨rfl,J,L,H⟩
 ·simp only[he,aN,aB,Ab,bI]
  exact .ret ⟨rfl,(M.ext hb C).less fun i (hi:F i)=>Or.inl hi,C.kf,t⟩
noncomputable def Mi.both(S:Mi)(e:En)(Am seq:Int):Mi × Int × Int:=
 if ¬(S.put e S.a S.b Am seq).2=0 then((S.put e S.a S.b Am seq).1,S.a,(S.put e S.a S.b Am seq).2)else
 (((S.put e S.a S.b Am seq).1.put e S.b S.a Am seq).1,S.b,((S.put e S.a S.b Am seq).1.put e S.b S.a Am seq).2)
theorem Bke(A:Bv disp)(hK:10000<K)(hd:17<=d)(M:Cv h m S F)(hb:HB h){e:En}(w:e.Wf)(Am seq:Int):
 Ok (Ag TT disp K d false 148 [.ptr m 0,.agg e.cells,I Am,I seq] h) fun v h'=>v=.tuple [I (S.both e Am seq).2.1,I (S.both e Am seq).2.2]/\Cv h' m (S.both e Am seq).1 F/\Kf F h h'/\HB h':=by
 obtain⟨dd,rfl⟩:∃k,d=k+1:=⟨d-1,by omega⟩;rw[Akq A (by omega)];have el:=En.Bm w;simp only[Afd,Ab];obtain⟨U,L,B,u,W⟩:=nW h (.cells e.cells 131);rw[L];have f:=B.hb hb;have H:=M.ext hb B;obtain⟨_,D,p,bl,ql,np,q,c,G,a⟩:=H.s;rw[a.H9.oa]
 try simp only[Ab]
 rw[a.H9.ob,Cw u rfl,Ak el]
 try simp only[Ab]
 refine(Bcg A hK (by omega) H f w S.a S.b Am seq).Ap ?_;rintro _ h2 ⟨rfl,M2,J,o⟩;have t:Kf F h h2:=B.Ar5 J;have u:=J.at f u (.inr ⟨aE _,by omega⟩);unfold Mi.both;simp only[I,Ac];by_cases h0:(S.put e S.a S.b Am seq).2=0
 ·simp only[h0,aC,aA,Ab,ak,Yd]
  rw[Cw u rfl,Ak el]
  try simp only[Ab]
  have M2:=M2.less fun i (C:F i)=>Or.inl C
  refine(Bcg A hK (by omega) M2 o w S.b S.a Am seq).Ap ?_;rintro _ X ⟨rfl,O,T,E⟩;exact .ret ⟨rfl,O,t.trans T,E⟩
 ·simp only[h0,aN,aB,Ab,bI]
  exact .ret ⟨rfl,M2.less fun i (C:F i)=>Or.inl C,t,o⟩
theorem Bdi(D:Nat)(g:Gm)(p bl n:Nat)(a b u f:Int):(Aao D g p bl n a b u).set 267 (I f)=Aao D g p bl n a b f:=by
 unfold Aao;have k:([EV.ptr D 0]++gL g++Bi).length=263:=by rw[aG,Qx];rfl
 rw[eQ _ _ (by omega),k];rfl
noncomputable def Mi.Aqf(S:Mi):Mi:={ S with u:=De .i64 (S.u+1) }
theorem Mi.Wf.Aqf(w:S.Wf):S.Aqf.Wf:={ toWp:=⟨w.sm,w.ps⟩,op:=w.op }
theorem A1x(M:Cv h m S F)(hb:HB h){k:Aa->R}(t:∀h',Cv h' m S.Aqf F->Kf F h h'->HB h'->Ext h h'\/True->h'.next=h.next->(∀i,F i->h'.get i=h.get i)->Ok (k h') Q):
 Ok (Ez (.ptr m 267) h fun v=>Kk A0i (bin TT .add 3) v (.int .i64 1) fun w=>stE 1 (.ptr m 267) w h k) Q:=by
 obtain⟨lt,D,p,bl,ql,np,q,c,G,a⟩:=M.s;rw[a.H9.ou];simp only[I,Ac];have ml:=Axm D S.g p bl (S.g.D*S.g.Z).toNat S.a S.b S.u;have lm:=hb _ _ a.H9.H9;refine Ok.st1 a.H9.H9 rfl rfl (by omega) ?_;rw[show EV.int .i64 (De .i64 (S.u+1))=I (De .i64 (S.u+1))from rfl,Bdi];have c1:Ar (fun i=>i=m) h (h.put m (.cells (Aao D S.g p bl (S.g.D*S.g.Z).toNat S.a S.b (De .i64 (S.u+1))) 111)):=(Ar.refl (S:=fun i=>i=m) h).Aq (.inl rfl) lm _;have B:=a.A2q hb (Ae _ _ _) c1;have o:∀i,F i->i≠m:=fun i f y=>by subst y;exact a.sub.2.1.2 f
 refine t _ ⟨⟨fun i f=>f.1,D,p,bl,ql,np,q,c,G,?_⟩,fun i f=>M.lt i f,M.wf.Aqf⟩ (c1.mono fun i f y=>o i y f) (hb.put lm _) (.inr trivial) rfl (fun i f=>Af _ (cP (o i f)));exact B
noncomputable def Mi.Ny(B:Mi × Int × Int):Mi:=if B.2.1=B.1.b then B.1.Aqf else B.1
def Me.zero:Me:=⟨0,0,0,0,0,0⟩
noncomputable def Mi.R8(e:En)(Am seq:Int):Nat->Mi->Mi × Me × Int
 | 0,S=>(S,Me.zero,0)
 | n+1,S=>
  if ¬S.ready.2=0 then(S.ready.1,Me.zero,S.ready.2)else
  if(S.ready.1.both e Am seq).2.2=0 then((S.ready.1.both e Am seq).1.Aqf,⟨1,(S.ready.1.both e Am seq).1.a,(S.ready.1.both e Am seq).1.b,(S.ready.1.both e Am seq).1.u,seq,E6 e.bytes⟩,0)else
  if(S.ready.1.both e Am seq).2.2=34 then((S.ready.1.both e Am seq).1,Me.zero,34)else
  if((Mi.Ny (S.ready.1.both e Am seq)).Ce (S.ready.1.both e Am seq).2.1).2=34 then(((Mi.Ny (S.ready.1.both e Am seq)).Ce (S.ready.1.both e Am seq).2.1).1,Me.zero,34)else
  R8 e Am seq n ((Mi.Ny (S.ready.1.both e Am seq)).Ce (S.ready.1.both e Am seq).2.1).1
noncomputable def Mi.place(S:Mi)(e:En)(Am seq:Int):Mi × Me × Int:=
 if ¬(Ee e 0 0 Am seq).2=0 then(S,Me.zero,(Ee e 0 0 Am seq).2)else Mi.R8 e Am seq 1000 S
noncomputable def Av2(bad:Nat->Int)(n:Nat):Nat:=((List.range n).filter fun i=>¬bad i=1).length
theorem Bi5(bad:Nat->Int)(n:Nat):Av2 bad n<=n:=by
 unfold Av2;have:=eP (fun i=>decide (¬bad i=1)) (List.range n);simpa using this
theorem A9v(bad:Nat->Int){z:Nat}(k:z<n)(hb:¬bad z=1):Av2 (fun i=>if i=z then 1 else bad i) n<Av2 bad n:=by
 unfold Av2;induction n with
 | zero=>omega
 | succ n a=>
  rw[cb,eO,eO,aG,aG];by_cases h:z=n
  ·subst h
   have e1:((List.range z).filter fun i=>decide (¬(if i=z then(1:Int)else bad i)=1))=(List.range z).filter fun i=>decide (¬bad i=1):=by
    refine List.filter_congr fun i f=>?_
    have:=dK.1 f;rw[aF (by omega)]
   have e2:([z].filter fun i=>decide (¬(if i=z then(1:Int)else bad i)=1)) = []:=by simp
   have e3:([z].filter fun i=>decide (¬bad i=1)) = [z]:=by simp[hb]
   rw[e1,e2,e3];simp
  ·have:=a (by omega)
   have e2:([n].filter fun i=>decide (¬(if i=z then(1:Int)else bad i)=1)) = [n].filter fun i=>decide (¬bad i=1):=by
    have:¬n=z:=fun y=>h y.symm
    rw[eJ,eJ];simp[this]
   rw[e2];omega
theorem Bb0(S:Mi):S.ready.1.g=S.g/\S.ready.1.bad=S.bad:=by
 unfold Mi.ready;split
 ·exact⟨rfl,rfl⟩
 ·split
  ·exact⟨rfl,rfl⟩
  ·split<;>exact⟨rfl,rfl⟩
theorem Bhw(S:Mi)(e:En)(Ah Ay Am seq:Int):(S.put e Ah Ay Am seq).1.g=S.g/\(S.put e Ah Ay Am seq).1.bad=S.bad/\(S.put e Ah Ay Am seq).1.a=S.a/\(S.put e Ah Ay Am seq).1.b=S.b/\(S.put e Ah Ay Am seq).1.u=S.u/\(S.put e Ah Ay Am seq).1.ps=S.ps:=by
 unfold Mi.put;split<;>exact⟨rfl,rfl,rfl,rfl,rfl,rfl⟩
theorem Bof(S:Mi)(e:En)(Am seq:Int):(S.both e Am seq).1.g=S.g/\(S.both e Am seq).1.bad=S.bad/\(S.both e Am seq).1.a=S.a/\(S.both e Am seq).1.b=S.b/\(S.both e Am seq).1.u=S.u/\(S.both e Am seq).1.ps=S.ps /\
 ((S.both e Am seq).2.1=S.a\/(S.both e Am seq).2.1=S.b):=by
 unfold Mi.both;obtain⟨f,k,o,q,t,v⟩:=Bhw S e S.a S.b Am seq;obtain⟨b1,b2,b3,b4,B,C⟩:=Bhw (S.put e S.a S.b Am seq).1 e S.b S.a Am seq;split
 ·exact⟨f,k,o,q,t,v,.inl rfl⟩
 ·exact⟨b1.trans f,b2.trans k,b3.trans o,b4.trans q,B.trans t,C.trans v,.inr rfl⟩
theorem Blv(B:Mi × Int × Int):(Mi.Ny B).g=B.1.g/\(Mi.Ny B).bad=B.1.bad/\(Mi.Ny B).a=B.1.a/\(Mi.Ny B).b=B.1.b:=by
 unfold Mi.Ny;split<;>exact⟨rfl,rfl,rfl,rfl⟩
theorem A19(S:Mi)(z:Int):(S.Ce z).1.g=S.g:=by
 unfold Mi.Ce;split
 ·rfl
 ·split
  ·rfl
  ·split
   ·rfl
   ·exact(A3w _).1
theorem Awk(w:S.Wf){z:Int}(f:0<=Bo S.g z)(hb:¬S.bad z.toNat=1):Av2 (S.Ce z).1.bad (S.g.D*S.g.Z).toNat<Av2 S.bad (S.g.D*S.g.Z).toNat:=by
 have a:(S.Ce z).1.bad=fun i=>if i=z.toNat then 1 else S.bad i:=by
  unfold Mi.Ce;rw[aF (by omega),aF (by unfold Mi.Ex;rw[aO hb,cr];simp)];split
  ·rfl
  ·exact(A3w _).2.2.2.2
 rw[a];refine A9v S.bad ?_ hb;rcases I9 w.sm z with y|⟨_,_,_,k,o⟩<;>omega
theorem A9g(w:S.Wf)(h:S.ready.2=0):(0<=Bo S.ready.1.g S.ready.1.a/\¬S.ready.1.bad S.ready.1.a.toNat=1)/\(0<=Bo S.ready.1.g S.ready.1.b/\¬S.ready.1.bad S.ready.1.b.toNat=1):=by
 rcases w.ready.op with⟨y,_⟩|y
 ·exfalso
  revert h y;unfold Mi.ready;split
  ·rename_i h0;intro _ y;exact h0.1 y
  ·split
   ·rename_i k;intro y _;exact k y
   ·cases hp:Aer S.ps S.g.D.toNat with
    | none=>intro y _;simp at y
    | some t=>
     obtain⟨x,y,ps'⟩:=t;obtain⟨a,b,_,_,_,_,_,_,_,_,o,_⟩:=Aix w.ps hp;intro _ f;have f:x = -1:=f;have:=Je w.sm (z:=x) (by rw[o.1];omega);omega
 ·exact y
theorem Az6:TT.size 47=some 6/\TT.agg 47=some true:=⟨by kernel_rfl,by kernel_rfl⟩
theorem A8d(A:Bv disp)(hK:10000<K)(hd:19<=d){e:En}(w:e.Wf)(Am seq:Int){W o:Nat}:∀(n f:Nat) (h:Aa) (S:Mi) (F:Nat->Prop),Av2 S.bad (S.g.D*S.g.Z).toNat<n->n<=f->Cv h m S F->HB h->F W->F o->W≠o ->
 h.get W=some (.cells e.cells 131)->h.get o=some (.cells Me.zero.cells 47) ->
 Ok (F3 (Ag TT disp K d false) (Ag TT disp K d true) K f (.ptr m 0) (I Am) (I seq) (.ptr W 0) (.ptr o 0) h) fun v h'=>v=.tuple [.agg (Mi.R8 e Am seq n S).2.1.cells,I (Mi.R8 e Am seq n S).2.2]/\Cv h' m (Mi.R8 e Am seq n S).1 (fun i=>F i/\¬i=o)/\Kf (fun i=>F i/\¬i=o) h h'/\HB h':=by
 intro n;induction n with
 | zero=>intro f h S F hg;omega
 | succ n ih=>
  intro f h S F hg hf M hb f5 f8 ax g5 g8;obtain⟨f,rfl⟩:∃k,f=k+1:=⟨f-1,by omega⟩;have el:=En.Bm w;have sub:∀i,(F i/\¬i=o)->F i:=fun i hi=>hi.1
  have fin:∀(me:Me) (er:Int) (E:Aa) (S5:Mi),Cv E m S5 F->Kf F h E->HB E->(S5,me,er)=Mi.R8 e Am seq (n+1) S ->
   Ok (stE 6 (.ptr o 0) (.agg me.cells) E fun h=>It TT [.c (.ptr o 0) 47,.v (I er)] h) fun v h'=>v=.tuple [.agg (Mi.R8 e Am seq (n+1) S).2.1.cells,I (Mi.R8 e Am seq (n+1) S).2.2]/\Cv h' m (Mi.R8 e Am seq (n+1) S).1 (fun i=>F i/\¬i=o)/\Kf (fun i=>F i/\¬i=o) h h'/\HB h':=by
   intro me er E S5 M5 k5 C he;have ah:=k5.at hb g8 f8;have l8:=C _ _ ah;refine Ok.st me.cells ah rfl rfl (Bk rfl) ?_;rw[Ff (Ae _ _ _) Az6.1 Az6.2 rfl,<-he];have c8:Ar (fun i=>i=o) E (E.put o (.cells me.cells 47)):=(Ar.refl (S:=fun i=>i=o) E).Aq (.inl rfl) l8 _;exact .ret ⟨rfl,(M5.Ahr c8 fun i hi _=>hi▸f8).less sub,(k5.less sub).trans (c8.mono fun i hi y=>y.2 hi),C.put l8 _⟩
  unfold Mi.R8 at fin⊢;simp only[F3,dr];refine(Bf4 A hK M hb (by omega)).Ap ?_;rintro _ h1 ⟨rfl,M1,k1,ai⟩;simp only[I,Ac];by_cases hr:S.ready.2=0
  ·rw[aF (show ¬¬S.ready.2=0 from fun y=>y hr)]at fin⊢
   have op:=A9g M.wf hr;have al:=(Bb0 S);simp only[hr,aC,aA,Ab,Wc];have a0:=k1.at hb g5 f5;rw[Cw a0 rfl,Ak el]
   try simp only[Ab]
   refine(Bke A hK (by omega) M1 ai w Am seq).Ap ?_;rintro _ h2 ⟨rfl,M2,k2,t⟩;have H:Kf F h h2:=k1.trans k2;have J:=Bof S.ready.1 e Am seq;generalize hB:S.ready.1.both e Am seq=B at M2 fin J⊢;obtain⟨T,z,er⟩:=B;simp only at M2 fin J⊢;have bz:z≠z->False:=fun y=>y rfl
   simp only[Ab,I,Ac];by_cases h0:er=0
   ·rw[aH h0]at fin⊢
    simp only[h0,aB,Ab,Au];obtain⟨a1,D,p,bl,ql,np,q,c,G,a⟩:=M2.s;have lm:=t _ _ a.H9.H9;have a2:=H.at hb g5 f5;rw[Jb lm,a.H9.oa]
    try simp only[Ab,Au]
    rw[Jb lm,a.H9.ob]
    try simp only[Ab,Au]
    rw[Jb lm,a.H9.ou]
    try simp only[Ab,Au]
    rw[Jb lm,a.H9.table]
    try simp only[Ab,Au]
    rw[show ∀k:EV->R,Ps 32 1 (.ptr W 6) none none none k=k (.slice W 6 32 32 false)from fun k=>rfl]
    try simp only[Ab,Au]
    have bs:Bs h2.lift (.slice W 6 32 32 false) W 6 e.bytes:=by
     refine⟨32,false,_,e.cells,by rw[w.len],by rw[w.len];omega,by rw[By];exact a2,rfl,by rw[el,w.len];exact aE _,?_⟩;unfold En.cells;rw[w.len];show(Bj e.bytes).take 32=_;rw[bQ (by rw[Bg,w.len];omega)]
    refine Ok.bE (A2m (K:=K) hK bs (Dg t) w.u8 (by rw[w.len];omega)) (fun _ _ p=>p.2) ?_;rintro _ b6 U ⟨rfl,_⟩ _ x3;have L:=x3.hb t;have b7:=A2j w.u8;simp only[Nk,Ab];rw[show De .i64 (Int.ofNat (E6 e.bytes))=(E6 e.bytes:Int)from Cq (by show -9223372036854775808<=((E6 e.bytes:Nat):Int);omega) (by show((E6 e.bytes:Nat):Int)<=_;omega)];rw[Ax (l:=(⟨1,T.a,T.b,T.u,seq,E6 e.bytes⟩:Me).cells) rfl]
    try simp only[Ab,Au]
    rw[J6];refine Ok.st (⟨1,T.a,T.b,T.u,seq,E6 e.bytes⟩:Me).cells (Ad _ _) rfl rfl (Bk rfl) ?_;obtain⟨h4,e_,x4,a4,n4⟩:=nP U (.cells [EV.int .i64 0,.int .i64 0,.int .i64 0,.int .i64 0,.int .i64 0,.int .i64 0] 47) (.cells (⟨1,T.a,T.b,T.u,seq,E6 e.bytes⟩:Me).cells 47);rw[e_];have X:=x4.hb L;have ao:Ext h2 h4:=x3.trans x4;have M4:=M2.ext t ao;refine A1x M4 X ?_;intro E M5 k5 C _ n5 e5;have a5:Bf F h2 h4 U.next:=.inr ⟨x3.next,by omega⟩
    rw[Cw (by rw[e5 _ a5];exact a4) rfl,Ak (n:=6) rfl]
    try simp only[Ab]
    refine fin _ _ E T.Aqf (M5.less fun i (hi:F i)=>Or.inl hi) (H.trans (ao.Ar5 k5)) C rfl
   ·rw[aF h0]at fin⊢
    simp only[h0,aA,Ab,Ac];by_cases Y:er=34
    ·rw[aH Y]at fin⊢
     simp only[Y,aB,Ab];rw[Ax (l:=Me.zero.cells) rfl];exact fin _ _ h2 T M2 H t rfl
    ·rw[aF Y]at fin⊢
     simp only[Y,aA,Ab,V8];obtain⟨a1,D,p,bl,ql,np,q,c,G,a⟩:=M2.s;rw[a.H9.ob];simp only[I,Ac];have hz:0<=Bo T.g z/\¬T.bad z.toNat=1:=by
      obtain⟨e1,e2,e3,e4,_,_,e5⟩:=J;rw[e1,e2];rcases e5 with e5|e5
      ·rw[e5];exact op.1
      ·rw[e5];exact op.2
     have go:∀(U:Aa),Cv U m (Mi.Ny (T,z,er)) F->Kf F h U->HB U ->
      Ok (Pd (Ag TT disp K d false) (Ag TT disp K d true) K (F3 (Ag TT disp K d false) (Ag TT disp K d true) K f) (.ptr m 0) (I Am) (I seq) (.ptr W 0) (.ptr o 0) (I z) U) fun v h'=>
       v=.tuple [.agg (if((Mi.Ny (T,z,er)).Ce z).2=34 then(((Mi.Ny (T,z,er)).Ce z).1,Me.zero,(34:Int))else Mi.R8 e Am seq n ((Mi.Ny (T,z,er)).Ce z).1).2.1.cells,I (if((Mi.Ny (T,z,er)).Ce z).2=34 then(((Mi.Ny (T,z,er)).Ce z).1,Me.zero,(34:Int))else Mi.R8 e Am seq n ((Mi.Ny (T,z,er)).Ce z).1).2.2] /\
        Cv h' m (if((Mi.Ny (T,z,er)).Ce z).2=34 then(((Mi.Ny (T,z,er)).Ce z).1,Me.zero,(34:Int))else Mi.R8 e Am seq n ((Mi.Ny (T,z,er)).Ce z).1).1 (fun i=>F i/\¬i=o)/\Kf (fun i=>F i/\¬i=o) h h'/\HB h':=by
      intro U M3 k3 L;obtain⟨u1,u2,u3,u4⟩:=Blv (T,z,er);simp only at u1 u2 u3 u4;have ad:0<=Bo (Mi.Ny (T,z,er)).g z/\¬(Mi.Ny (T,z,er)).bad z.toNat=1:=by rw[u1,u2];exact hz
      have less:=Awk M3.wf ad.1 ad.2;have qg:=A19 (Mi.Ny (T,z,er)) z;simp only[Pd,dr];refine(Ani A hK M3 L (by omega) (Zt M3.wf.sm ad.1)).Ap ?_;rintro _ h4 ⟨rfl,M4,k4,X⟩;have aa:Kf F h h4:=k3.trans k4;simp only[I,Ac];by_cases hq:((Mi.Ny (T,z,er)).Ce z).2=34
      ·rw[aH hq]at fin⊢
       simp only[hq,aB,Ab];rw[Ax (l:=Me.zero.cells) rfl];exact fin _ _ h4 _ M4 aa X rfl
      ·rw[aF hq]
       simp only[hq,aA,Ab];have bb:=aa.at hb g5 f5;have bf:=aa.at hb g8 f8;refine(ih f h4 _ F ?_ (by omega) M4 X f5 f8 ax bb bf).mono ?_
       ·rw[qg]
        have e1:(Mi.Ny (T,z,er)).g=S.g:=by rw[u1,J.1,al.1]
        have e2:(Mi.Ny (T,z,er)).bad=S.bad:=by rw[u2,J.2.1,al.2]
        rw[e1,e2]at less;rw[e1];omega
       ·rintro v E ⟨ev,M5,k5,C⟩
        exact⟨ev,M5,(aa.less sub).trans k5,C⟩
     by_cases O:z=T.b
     ·simp only[O,aB,Ab]
      refine A1x M2 t ?_;intro U M3 k3 L _ _ _;have:=go U (by unfold Mi.Ny;rw[aH O];exact M3) (H.trans k3) L;rw[O]at this;exact this
     ·simp only[O,aA,Ab]
      exact go h2 (by unfold Mi.Ny;rw[aF O];exact M2) H t
  ·rw[aH hr]at fin⊢
   simp only[hr,aN,aB,Ab];rw[Ax (l:=Me.zero.cells) rfl];exact fin _ _ h1 _ M1 k1 ai rfl
theorem A14(A:Bv disp)(hK:10000<K)(hd:20<=d)(M:Cv h m S F)(hb:HB h){e:En}(w:e.Wf)(Am seq:Int):
 Ok (Ag TT disp K d false 115 [.ptr m 0,.agg e.cells,I Am,I seq] h) fun v h'=>v=.tuple [.agg (S.place e Am seq).2.1.cells,I (S.place e Am seq).2.2]/\Cv h' m (S.place e Am seq).1 F/\Kf F h h'/\HB h':=by
 obtain⟨dd,rfl⟩:∃k,d=k+1:=⟨d-1,by omega⟩;rw[Ail A (by omega)];have el:=En.Bm w;simp only[Aca,Ab];rw[show(h.new (.cells e.cells 131)).next=h.next+1 from rfl];have L:Ext h ((h.new (.cells e.cells 131)).new (.cells Me.zero.cells 47)):=(Ar.new _ _).Df _;have H:((h.new (.cells e.cells 131)).new (.cells Me.zero.cells 47)).get h.next=some (.cells e.cells 131):=by
  rw[Aw _ (aL _)];exact Ad _ _
 have E:((h.new (.cells e.cells 131)).new (.cells Me.zero.cells 47)).get (h.next+1)=some (.cells Me.zero.cells 47):=Ad _ _;have n1:((h.new (.cells e.cells 131)).new (.cells Me.zero.cells 47)).next=h.next+2:=rfl
 rw[show(Dt.cells [EV.int .i64 0,.int .i64 0,.int .i64 0,.int .i64 0,.int .i64 0,.int .i64 0] 47)=.cells Me.zero.cells 47 from rfl];generalize (h.new (.cells e.cells 131)).new (.cells Me.zero.cells 47)=X at L H E n1⊢;have o:=L.hb hb;rw[Cw H rfl,Ak el]
 try simp only[Ab]
 refine(Ae4 (K:=K) w o hK 0 0 Am seq).Ap ?_;rintro _ h2 ⟨rfl,O⟩;have T:=O.hb o;have Y:=Aul w 0 0 Am seq;unfold Mi.place;generalize Ee e 0 0 Am seq=fe at Y⊢;obtain⟨f,er⟩:=fe;have fl:=Fr.Bm Y;have zl:=Fr.Bm Fr.Gs;simp only[Ab,Aq6];refine Ok.st f.cells (Ad _ _) rfl (by show Fz f.cells=49;rw[Bc,fl]) (Bk (by rw[zl];exact fl.symm)) ?_;obtain⟨q,e_,U,_,_⟩:=nP h2 (.cells Fr.zero.cells 167) (.cells f.cells 167);rw[e_];have t:=U.hb T;have u:Ext h q:=(L.trans O).trans U;have C:Ext X q:=O.trans U;have M3:=M.ext hb u;have H:=C.at o H;have E:=C.at o E;have ln:h.next+2<=q.next:=by have:=C.next;omega
 simp only[I,Ac];by_cases he:er=0
 ·subst he
  simp only[aC,aA,Ab,ak,Xi];have gl:=Bi5 S.bad (S.g.D*S.g.Z).toNat;have:(S.g.D*S.g.Z).toNat<=512:=by
   have X:=M.wf.sm.d1;have h2:=M.wf.sm.z1;have q:=M.wf.sm.d0;have h4:=M.wf.sm.z0;obtain⟨m0,m1⟩:=Qi (a:=S.g.D) (b:=S.g.Z) (A:=8) (B:=64) (by omega) (by omega) (by omega) (by omega);omega
  refine(A8d A hK (by omega) w Am seq 1000 K q S (Bf F h q) (by omega) (by omega) M3 t (.inr ⟨by omega,by omega⟩) (.inr ⟨by omega,by omega⟩) (by omega) H E).mono ?_;rintro v h4 ⟨ev,M4,k4,W⟩;refine⟨ev,M4.less fun i (J:F i)=>⟨.inl J,fun y=>by have:=M.lt i J;omega⟩,?_,W⟩;exact Ar.then (S:=fun i=>¬F i) (Ext.to u) k4 fun i y hl z=>y ⟨.inl z,fun y=>by have:=M.lt i z;omega⟩
 ·simp only[he,aN,aB,Ab,bI]
  rw[Ax (l:=Me.zero.cells) rfl];refine Ok.st Me.zero.cells E rfl rfl (Bk rfl) ?_;rw[Ff (Ae _ _ _) Az6.1 Az6.2 rfl];have l8:=t _ _ E;have x4:Ext h (q.put (h.next+1) (.cells Me.zero.cells 47)):=u.Aq (.inr (by omega)) l8 _;exact .ret ⟨rfl,(M.ext hb x4).less fun i (J:F i)=>Or.inl J,x4.kf,t.put l8 _⟩
end Go.Ev
