import Derived.Test.YtadnemjjlacolaaGreatZa
import Derived.Test.YtadnemjjlacolaaGreatXb
set_option linter.all false
namespace Go.Ev
open Go.Proofs
set_option maxRecDepth 100000
variable {p x y:List EV}{D K V b d i j m n:Nat}{h h':Ab}{e:Evt}{Z:Zn}{F G F':Nat->Prop}{ms:List (EV × EV)}{S:Mi}{ev:List Evt}{Q:EV->Ab->Prop}{g:Gm}{ps:Nat->List Int}{P:Int->Prop}{disp:Nat->Option FT}
theorem Az8(a:x.length=64)(f:y.length=64):(Abt x y).length=64:=by unfold Abt;rw[List.length_zipWith,a,f];rfl
theorem U8.at(u:U8 x)(f:i<x.length):∃a:Nat,a<256/\x[i]=.int .u8 (Int.ofNat a):=by
 obtain⟨l,k,rfl⟩:=u;rw[Be]at f;exact⟨l[i],k _ (av _),by simp[Bh]⟩
theorem U8.xor(f:U8 x)(k:U8 y):U8 (Abt x y):=by
 obtain⟨a,o,rfl⟩:=f;obtain⟨b,hb,rfl⟩:=k;refine⟨List.zipWith Nat.xor a b,fun c q=>?_,?_⟩
 ·obtain⟨i,t,rfl⟩:=List.getElem_of_mem q
  rw[List.getElem_zipWith];rw[List.length_zipWith]at t;exact eC (n:=8) (o _ (av _)) (hb _ (av _))
 ·unfold Abt Bh
  rw[List.zipWith_map,List.map_zipWith];rfl
theorem Bn0 {h0:Ab}{b2 b3 b4:Nat}(O:x.length=64)(T:y.length=64)(U:U8 x)(W:U8 y)(X:h0.next<=b2)(l3:b2<b3)(l4:b3<b4):∀(m i:Nat) (h:Ab) (l:List EV),64-i<m->i<=64->HB h->Ext h0 h ->
 h.get b2=some (.cells l 30)->l.length=64->(∀j,j<64->l[j]? = if j<i then(Abt x y)[j]? else x[j]?)->h.get b3=some (.cells y 30)->h.get b4=some (.cells Z2 30) ->
 Ok (Mt K m (.ptr b2 0) (.ptr b3 0) (.ptr b4 0) (.int .i64 (i:Int)) h) fun v h'=>v=.agg (Abt x y)/\Ext h0 h'/\HB h':=by
 intro m;induction m with
 | zero=>intro i h l hm;omega
 | succ m Y=>
  intro i h l hm hi hb c B k hj C g4;have f:=hb _ _ B;have E:=hb _ _ C;have o:=hb _ _ g4;simp only[Mt,Ac];by_cases q:i<64
  ·rw[aM (show(i:Int)<64 by omega)]
   obtain⟨a,ha,L⟩:=U.at (i:=i) (by omega);obtain⟨b,H,eb⟩:=W.at (i:=i) (by omega);have e2:l[i]? = some (.int .u8 (Int.ofNat a)):=by rw[hj i q,aF (bS _),aC (by omega),L]
   have e3:y[i]? = some (.int .u8 (Int.ofNat b)):=by rw[aC (by omega),eb]
   have ex:(Abt x y)[i]? = some (Nk .u8 (a ^^^ b)):=by
    unfold Abt;rw[List.getElem?_zipWith,aC (show i<x.length by omega),L,e3];rfl
   simp only[Aa,Ah9,Air q,bJ,bZ];rw[Ku f,Al B rfl e2,Ku E,Al C rfl e3,Bqd ha H,Lf];refine Ok.st1 B rfl rfl (by omega) ?_;simp only[Aio,Ac];rw[Cj];refine Y (i+1) _ (l.set i (Nk .u8 (a ^^^ b))) (by omega) (by omega) (hb.put f _) (c.Ar (.inr X) f _) (Af _ _ _) (by rw[bK];exact k) (fun j J=>?_) ?_ ?_
   ·rw[dD]
    by_cases t:i=j
    ·subst t;rw[aG rfl,aG (by omega),aG (by omega),ex]
    ·rw[aF t,hj j J]
     by_cases u:j<i
     ·rw[aG u,aG (by omega)]
     ·rw[aF u,aF (by omega)]
   ·rw[Ag _];exact C
   ·rw[Ag _];exact g4
  ·have:i=64:=by omega
   subst this;have el:l=Abt x y:=by
    refine dY fun j=>?_
    by_cases u:j<64
    ·rw[hj j u,aG u]
    ·rw[cA (by omega),cA (by rw[Az8 O T];omega)]
   subst el;simp only[show ¬((64:Nat):Int)<64 by omega,aA,Aa,Ah7];rw[Db B rfl,Ai k];simp only[Aa];refine Ok.st (Abt x y) g4 rfl (by show Gk (Abt x y)=64;rw[Bc,k]) (Bm (by rw[Nc];exact k.symm)) ?_;rw[Yr (Af _ _ _) A26.1 A26.2 k];exact .ret ⟨rfl,c.Ar (.inr (by omega)) o _,hb.put o _⟩
theorem Bp7(a:x.length=64)(k:y.length=64)(o:U8 x)(q:U8 y)(hb:HB h)(hK:100<K):
 Ok (Rs K (.agg x) (.agg y) h) fun v h'=>v=.agg (Abt x y)/\Ext h h'/\HB h':=by
 simp only[Rs,Aa];have f:Ext h (((h.new (.cells x 30)).new (.cells y 30)).new (.cells (List.replicate 64 (.int .u8 0)) 30)):=((Av.new _ _).Ds _).Ds _;refine Bn0 (h0:=h) (x:=x) (y:=y) a k o q (b2:=h.next) (b3:=h.next+1) (b4:=h.next+2) (aE _) (by omega) (by omega) K 0 _ x (by omega) (by omega) (f.hb hb) f ?_ a (fun j _=>by rw[aF (br _)]) ?_ (Ad _ _)
 ·rw[Az _ (by show h.next<h.next+1+1;omega),Az _ (by show h.next<h.next+1;omega)];exact Ad _ _
 ·rw[Az _ (by show h.next+1<h.next+1+1;omega)];exact Ad _ _
theorem Bk1(A:Bj disp){e:Nat}(he:2<=e)(E:h.get b=some (.cells p 30))(t:x.length=64)(hp:p.length=64)(H:U8 x)(up:U8 p)(hb:HB h)(hK:100<K):
 Ok (Xq (Ae TT disp K e false) (Ae TT disp K e true) (.func 225 [] [.ptr b 0]) [.agg x] h) fun v h'=>v=.agg (Abt x p)/\Ext h h'/\HB h':=by
 obtain⟨d,rfl⟩:∃k,e=k+1:=⟨e-1,by omega⟩;show Ok (Ae TT disp K (d+1) false 225 [.agg x,.ptr b 0] h) _;rw[Aoe A (by omega)];simp only[Ahs,Aa];have q:Ext h ((h.new (.cells x 30)).new (.cells (List.replicate 64 (.int .u8 0)) 30)):=(Av.new _ _).Ds _;have B:((h.new (.cells x 30)).new (.cells (List.replicate 64 (.int .u8 0)) 30)).get h.next=some (.cells x 30):=by
  rw[Az _ (by show h.next<h.next+1;omega)];exact Ad _ _
 have f:((h.new (.cells x 30)).new (.cells (List.replicate 64 (.int .u8 0)) 30)).get (h.next+1)=some (.cells Z2 30):=Ad _ _;rw[show(h.new (.cells x 30)).next=h.next+1 from rfl];generalize (h.new (.cells x 30)).new (.cells (List.replicate 64 (.int .u8 0)) 30)=L at q B f⊢;have o:=q.hb hb;have J:=q.at hb E;rw[Db B rfl,Ai t];simp only[Aa];rw[Db J rfl,Ai hp];simp only[Aa];refine(Bp7 (K:=K) t hp H up o hK).An ?_;rintro _ h2 ⟨rfl,C,a⟩;have f:=C.at o f;have u:=Az8 t hp;refine Ok.st (Abt x p) f rfl (by show Gk (Abt x p)=64;rw[Bc,u]) (Bm (by rw[Nc];exact u.symm)) ?_;rw[Yr (Af _ _ _) A26.1 A26.2 u];exact .ret ⟨rfl,(q.trans C).Ar (.inr (by omega)) (a _ _ f) _,a.put (a _ _ f) _⟩
theorem Azr:∀(l vs:List EV),vs.length<=l.length->Ld l vs=some (vs++l.drop vs.length)
 | l,[],_=>by cases l<;>rfl
 | [],_::_,h=>by simp at h
 | a::l,v::vs,h=>by
  show(match Ld l vs with|some x=>some (v::x)|none=>none)=_;rw[Azr l vs (by simpa using h)];rfl
theorem Ayx:∀(l:List EV) (off:Nat) (vs:List EV),off+vs.length<=l.length->Gw l off vs=some (l.take off++vs++l.drop (off+vs.length))
 | [],off,vs,h=>by
  have h0:off=0/\vs = []:=by simp at h;exact⟨h.1,h.2⟩
  obtain⟨rfl,rfl⟩:=h0;rfl
 | a::l,0,vs,h=>by
  show Ld (a::l) vs=_;rw[Azr _ _ (by omega)];simp
 | a::l,off+1,vs,h=>by
  show(match Gw l off vs with|some x=>some (a::x)|none=>none)=_;rw[Ayx l off vs (by simp at h;omega)];simp only[fW,List.cons_append];rw[show off+1+vs.length=(off+vs.length)+1 by omega,List.drop_succ_cons]
theorem Aqy {l vs:List EV}{off:Nat}(h:off+vs.length<=l.length):O0 l off vs=some (l.take off++vs++l.drop (off+vs.length)):=by rw[Aab,Ayx _ _ _ h]
theorem Ape:∀(l:List (List EV)),(∀x∈l,x.length=n)->l.flatten.length=l.length*n
 | [],_=>by simp
 | a::l,hw=>by
  rw[cC,aH,Ape l fun x f=>hw x (aT _ f),hw a (aX ..),bH,fZ];omega
theorem A5p{l:List (List EV)}(hw:∀x∈l,x.length=n)(hj:j<l.length):l.flatten=(l.take j).flatten++l[j]++(l.drop (j+1)).flatten/\(l.take j).flatten.length=j*n/\l[j].length=n:=by
 refine⟨?_,?_,hw _ (av _)⟩
 ·have:l=l.take j++l[j]::l.drop (j+1):=by rw[<-dE hj,List.take_append_drop]
  conv=>lhs;rw[this]
  rw[dZ,cC,cW]
 ·rw[Ape (n:=n) _ fun x a=>hw x (b9 a),cD,eO (by omega)]
theorem A09{l:List (List EV)}(hw:∀x∈l,x.length=n)(hj:j<l.length):Oy l.flatten (j*n) n=some l[j]:=by
 obtain⟨e,a,h2⟩:=A5p hw hj;rw[e,Fw (by rw[aH,aH,a,h2];omega),<-a,cW,gH,<-h2,fF]
theorem A01{l:List (List EV)}(hw:∀x∈l,x.length=n)(hj:j<l.length){v:List EV}(f:v.length=n):O0 l.flatten (j*n) v=some (l.set j v).flatten:=by
 obtain⟨e,a,h2⟩:=A5p hw hj;have e2:(l.set j v).flatten=(l.take j).flatten++v++(l.drop (j+1)).flatten:=by
  rw[List.set_eq_take_append_cons_drop,aG hj,dZ,cC,cW]
 have k:l.flatten.length=j*n+n+(l.drop (j+1)).flatten.length:=by rw[e,aH,aH,a,h2]
 have t1:l.flatten.take (j*n)=(l.take j).flatten:=by rw[e,cW,<-a,fF]
 have t2:l.flatten.drop (j*n+n)=(l.drop (j+1)).flatten:=by
  rw[show j*n+n=((l.take j).flatten++l[j]).length by rw[aH,a,h2],e,gH]
 rw[Aqy (by rw[k,f];omega),f,t1,t2,e2]
def Zn.change(Z:Zn)(off:Int)(p:List EV):Zn:=if 0<=off/\off<Z.l.length then { Z with l:=Z.l.set off.toNat (Abt (((Z.l[off.toNat]?).getD Z2)) p) }else Z
theorem Zn.Wf.change{size:Nat}(w:Z.Wf size)(off:Int)(hp:U8 p):(Z.change off p).Wf size:=by
 unfold Zn.change;split
 ·refine⟨fun x a=>?_,w.st,by simp only[bK];exact w.safe,by simp only[bK];exact w.len,by simp only[bK];exact w.room⟩
  rcases cm a with a|a
  ·exact w.u8 x a
  ·rw[a]
   refine U8.xor ?_ hp;cases f:Z.l[off.toNat]? with
   | none=>exact U8.zs
   | some y=>exact w.u8 _ (bY f)
 ·exact w
theorem A4d(A:Bj disp){e:Nat}(he:2<=e){z q size:Nat}(o:Gh h z q size Z)(w:Z.Wf size)(hs:size<=64)(hb:HB h)(off:Int)(T:h.get b=some (.cells p 30))(hp:p.length=64)(up:U8 p)(hK:100<K):
 Ok (Ll (Ae TT disp K e false) (Ae TT disp K e true) K (.ptr z 0) (I off) (.func 225 [] [.ptr b 0]) h) fun v h'=>v=I (if 0<=off/\off<Z.l.length then 0 else 31)/\Gh h' z q size (Z.change off p)/\Av (fun j=>Z.l≠[]/\j=q) h h'/\HB h':=by
 obtain⟨s,g,r⟩:=o.Aj;have L:=hb _ _ g;have no:¬(0<=off/\off<Z.l.length)->Ok (some (I 31,h)) fun v h'=>v=I (if 0<=off/\off<Z.l.length then 0 else 31)/\Gh h' z q size (Z.change off p)/\Av (fun j=>Z.l≠[]/\j=q) h h'/\HB h':=fun O=>by
  unfold Zn.change;rw[aF O,aF O];exact .ret ⟨rfl,o,Av.refl _,hb⟩
 simp only[Ll,I,Ac];by_cases h0:off<0
 ·rw[aM h0]
  simp only[Aa,Ac,Gq];exact no fun y=>by omega
 ·rw[aP h0]
  simp only[Aa,Ac,C8 g rfl,r.F3];by_cases J:(Z.l.length:Int)<=off
  ·rw[aM J]
   simp only[Aa,Gq];exact no fun y=>by omega
  ·rw[aP J]
   obtain⟨j,rfl⟩:∃j:Nat,off=j:=⟨off.toNat,by omega⟩;have hj:j<Z.l.length:=by omega
   have C:=r.block (by omega);have lq:=hb _ _ C;have f:(0:Int)<=(j:Int)/\(j:Int)<Z.l.length:=by omega
   unfold Zn.change;rw[aG f,aG f,aZ,aC hj,Option.getD_some];obtain⟨_,k⟩:=(A5p o.wf hj).2;simp only[Aa,Gq,Pb,Aw];rw[Ku L,C8 g rfl];simp only[Aa,Aw];rw[Ku L,C8 g rfl];simp only[Aa,Aw,r.ix hj];rw[Ku lq,Bp C rfl (A09 o.wf hj)];simp only[Aw];refine Ok.bE (Bk1 (K:=K) A he (h:=h.lift) (by rw[Ci];exact T) k hp (w.u8 _ (av _)) up (D4 hb) hK) (fun _ _ p=>p.2.1) ?_;rintro _ J h2 ⟨rfl,_,U⟩ sm E;have t:=E.hb hb;have u:=E.at hb C;have H:=Az8 k hp;rw[Lf,Biu (v:=.agg (Abt Z.l[j] p)) u rfl (by show Gk (Abt Z.l[j] p)=64;rw[Bc,H]) (A01 o.wf hj H)];have B:=t _ _ u;refine .ret ⟨rfl,⟨⟨s,?_,?_⟩,fun x a=>?_⟩,(Ext.to E).Ar (.inl ⟨fun y=>by rw[y]at hj;simp at hj,rfl⟩) B _,t.put B _⟩
   ·rw[Ag _ (Bb C g (by simp))];exact E.at hb g
   ·refine .inr ⟨by rw[bK];omega,by rw[bK];exact r.slice (by omega),Af _ _ _,?_⟩
    rw[Ape (n:=64),bK];intro x a;rcases cm a with a|a
    ·exact o.wf x a
    ·rw[a];exact H
   ·rcases cm a with a|a
    ·exact o.wf x a
    ·rw[a];exact H
theorem A91(A:Bj disp)(hd:4<=d){D:Dv}(s:It h V D F)(hb:HB h)(hK:100<K)(z off:Int)(hp:p.length=64)(up:U8 p):
 Ok (Ae TT disp K d false 209 [.ptr V 0,I z,I off,.agg p] h) fun v h'=>(∃n:Int,v=I n/\(n=0↔D.has z=true/\0<=off/\off<(D.zs z.toNat).l.length))/\It h' V (D.A1g z off p) (Bg F h h')/\Av F h h'/\HB h':=by
 obtain⟨e,rfl⟩:∃k,d=k+1:=⟨d-1,by omega⟩;rw[Ar4 A (by omega)];simp only[Amk,Aa];have t:Ext h (h.new (.cells p 30)):=Av.new _ _;have g5:(h.new (.cells p 30)).get h.next=some (.cells p 30):=Ad _ _
 have o:HB (h.new (.cells p 30)):=hb.new _;have s1:=s.ext t;generalize h.new (.cells p 30)=L at t g5 o s1⊢;rw[Aps s1];unfold Dv.A1g;cases E:D.has z with
 | false=>
  simp only[Aa,ak,gN,bD];exact .ret ⟨⟨13,rfl,by simp⟩,s1.grow s.lt t.next,Ext.to t,o⟩
 | true=>
  have O:=dN E;obtain⟨j,rfl⟩:∃j:Nat,z=j:=⟨z.toNat,by omega⟩;have hj:j<D.n:=by omega
  obtain⟨w,wl,zl,T,q,a,b⟩:=s1;have w':=w.zs j hj;simp only[Aa,Afv,a.list,a.Bmu hj,aZ,gO];obtain⟨f,rfl⟩:∃k,e=k+1:=⟨e-1,by omega⟩;rw[Abp A (by omega)];refine(A4d (K:=K) (e:=f) A (by omega) (a.Aj j hj) w' w.size o off g5 hp up hK).An ?_;rintro _ h2 ⟨rfl,H,c2,u⟩;obtain⟨d3,B⟩:=It.Aj w a b wl o hj (w'.change off up) H (c2.mono fun _=>.inr) u (fun y=>.inr ⟨rfl,fun e=>y (by unfold Zn.change;split<;>simp[e])⟩);refine .ret ⟨⟨_,rfl,by split<;>simp_all⟩,?_,(Ext.to t).trans B,u⟩;have d4:It h2 V (D.set j ((D.zs j).change off p)) (Bg F h h2):=d3.mono (fun i J=>by
   rcases J with y|y
   ·exact .inl y
   ·exact .inr ⟨bN t.next y.1,y.2⟩) (Bg.lt s.lt (bN t.next B.next))
  unfold Zn.change at d4;split
  ·rename_i C
   rw[aG C]at d4;exact d4
  ·rename_i C
   rw[aF C]at d4;have e:D.set j (D.zs j)=D:=by
    unfold Dv.set;have:Ki D.zs j (D.zs j)=D.zs:=by funext i;unfold Ki;split<;>simp_all
    rw[this]
   rw[e]at d4;exact d4
theorem Evt.len(w:e.Wf):e.cells.length=68:=by unfold Evt.cells;rw[aH,w.len];rfl
theorem Evt.Bpa(w:e.Wf):Oy e.cells 4 64=some e.pat:=by
 rw[Fw (by rw[Evt.len w];omega)];show some ((e.pat).take 64)=_;rw[bR (by rw[w.len];omega)]
theorem Evt.one(e:Evt):e.cells[0]? = some (I e.Qu)/\e.cells[1]? = some (I e.kind)/\e.cells[2]? = some (I e.Aj)/\e.cells[3]? = some (I e.off):=⟨rfl,rfl,rfl,rfl⟩
theorem G2.call {f h4:Ab}{M qc qh:Nat}{cs hs:EV}{S:Lk}{dv:Dv}(s:G2 h D S G)(a:Ak5 h D V M qc qh cs hs ms S F G)(hb:HB h)(d3:It f V dv (Bg F h.lift f))(sm:Asm f h4)(c4:Av F h h4):
 G2 h4 D { S with dv:=dv } (Bg G h h4)/\Av G h h4/\Ak5 h4 D V M qc qh cs hs ms { S with dv:=dv } (Bg F h h4) (Bg G h h4):=by
 have d4:It h4 V dv (Bg F h h4):=by
  have:=d3.frame (h':=h4) (by rw[sm.next];exact aE _) fun j _=>sm.get j
  refine this.mono (fun j hj=>?_) (Bg.lt a.dev.lt c4.next);rcases hj with y|y
  ·exact .inl y
  ·exact .inr ⟨y.1,by rw[sm.next];exact y.2⟩
 have:=s.put a hb d4 c4;exact⟨this.1,this.2,a.put hb d4 c4⟩
theorem Bal(A:Bj disp)(hK:1000<K)(hd:6<=d){S:Lk}(s:G2 h D S G)(hb:HB h)(w:e.Wf):
 Ok (Ae TT disp K d false 180 [.ptr D 0,.agg e.cells] h) fun v h'=>G2 h' D { S with dv:=S.dv.A1g e.Aj e.off e.pat } (Bg G h h')/\Av G h h'/\HB h':=by
 obtain⟨dd,rfl⟩:∃k,d=k+1:=⟨d-1,by omega⟩;rw[At2 A (by omega)];simp only[Aor,Aa];have x1:Ext h (h.new (.cells e.cells 32)):=Av.new _ _;have t:(h.new (.cells e.cells 32)).get h.next=some (.cells e.cells 32):=Ad _ _
 have B:HB (h.new (.cells e.cells 32)):=hb.new _;have s1:=s.ext x1;have n1:(h.new (.cells e.cells 32)).next=h.next+1:=rfl
 generalize h.new (.cells e.cells 32)=h1 at x1 t B s1 n1⊢;have nx:¬G h.next:=fun y=>bS _ (s.lt _ y)
 obtain⟨V,M,qc,qh,cs,hs,ms,F,a⟩:=s1.Qu;have lD:=B _ _ a.Eb;have l3:=B _ _ t;obtain⟨_,_,e2,e3⟩:=e.one;rw[Ku lD,C8 a.Eb rfl]
 try simp only[Aa,Aw]
 rw[Ku l3,Al t rfl e2]
 try simp only[Aa,Aw]
 rw[Ku l3,Al t rfl e3]
 try simp only[Aa,Aw]
 rw[Ku l3,Bp t rfl (Evt.Bpa w)]
 try simp only[Aa,Aw]
 refine Ok.bC (S:=F) (A91 (K:=K) A (by omega) a.dev.lift (D4 B) (by omega) e.Aj e.off w.len w.u8) (fun _ _ p=>p.2.2.1) ?_;rintro _ h3 h4 s' ⟨⟨n,rfl,_⟩,d3,_,ai⟩ sm c4 _;obtain⟨s4,W,a4⟩:=s1.call a B d3 sm c4;have J:=sm.hb ai;have t:=W.at B t nx;have fin:∀(f:Ab) (G5:Nat->Prop),G2 f D { S with dv:=S.dv.A1g e.Aj e.off e.pat } G5->(∀i,G5 i->Bg G h f i)->Av (Bg G h1 h4) h4 f->HB f->Ok (some (.tuple [],f)) fun v h'=>G2 h' D { S with dv:=S.dv.A1g e.Aj e.off e.pat } (Bg G h h')/\Av G h h'/\HB h':=fun f G5 s5 g5 c5 q=>by
  have cc:Av G h f:=((Ext.to x1).trans W).then c5 fun j hj hl=>by
   rcases hj with y|y
   ·exact y
   ·omega
  exact .ret ⟨s5.mono g5 (Bg.lt s.lt cc.next),cc,q⟩
 have gr:∀f:Ab,h4.next<=f.next->∀i,Bg G h1 h4 i->Bg G h f i:=fun f l i E=>by
  rcases E with y|y
  ·exact .inl y
  ·exact .inr ⟨by omega,by omega⟩
 simp only[Ac,I];by_cases hn:n=0
 ·subst hn
  simp only[aD,aA,Aa,Aif];rw[Al t rfl e2]
  try simp only[Aa]
  rw[Al t rfl e3];rw[Ay (l:=[I e.Aj,I e.off]) rfl]
  try simp only[Aa]
  have C:Ext h4 (h4.new (.cells [I 0,I 0] 227)):=Av.new _ _;have bo:(h4.new (.cells [I 0,I 0] 227)).get h4.next=some (.cells [I 0,I 0] 227):=Ad _ _
  refine Ok.st [I e.Aj,I e.off] (o:=0) (l:=[I 0,I 0]) (Ad _ _) rfl rfl rfl ?_;have C:Ext h4 ((h4.new (.cells [I 0,I 0] 227)).put h4.next (.cells [I e.Aj,I e.off] 227)):=(Av.new h4 _:Ext _ _).Ar (.inr (aE _)) (aL _) _;have g4:((h4.new (.cells [I 0,I 0] 227)).put h4.next (.cells [I e.Aj,I e.off] 227)).get h4.next=some (.cells [I e.Aj,I e.off] 227):=Af _ _ _
  have n5:((h4.new (.cells [I 0,I 0] 227)).put h4.next (.cells [I e.Aj,I e.off] 227)).next=h4.next+1:=rfl
  simp only[I]at C g4 n5⊢;generalize (h4.new (.cells [EV.int .i64 0,.int .i64 0] 227)).put h4.next (.cells [.int .i64 e.Aj,.int .i64 e.off] 227)=f at C g4 n5⊢
  have q:=C.hb J;have s5:=s4.ext C;have t:=C.at J t;have a5:=a4.frame C.next fun i E=>C.get i (s4.lt i E) id
  have al:=q _ _ a5.Eb;have ao:=q _ _ g4;have bp:=q _ _ t;rw[Ku al,C8 a5.Eb rfl]
  try simp only[Aa,Aw]
  rw[Ku ao,Bp g4 rfl (Ai (n:=2) rfl)]
  try simp only[Aa,Aw]
  obtain⟨p,k,el,up,lp⟩:=Bl5 (h:=f.lift) (by rw[Ci];exact a5.map) a5.marks e.Aj e.off;simp only[kp,I]at el;rw[Aqs el]
  try simp only[Aa,Aw]
  have H:Ext f ((f.new (.cells (List.replicate 64 (EV.int .u8 0)++[EV.int .i64 0]) 246)).put f.next (.cells (p++[I k]) 246)):=(Av.new f _:Ext _ _).Ar (.inr (aE _)) (aL _) _;have T:((f.new (.cells (List.replicate 64 (EV.int .u8 0)++[EV.int .i64 0]) 246)).put f.next (.cells (p++[I k]) 246)).get f.next=some (.cells (p++[I k]) 246):=Af _ _ _
  rw[Lf];refine Ok.st (p++[I k]) (Ad _ _) rfl (by show Gk (p++[I k])=65;rw[Bc,aH,lp];rfl) (Bm (by rw[aH,bQ];show _=(p++[I k]).length;rw[aH,lp];rfl)) ?_;generalize (f.new (.cells (List.replicate 64 (EV.int .u8 0)++[EV.int .i64 0]) 246)).put f.next (.cells (p++[I k]) 246)=h6 at H T⊢
  have u:=H.hb q;have s6:=s5.ext H;have t:=H.at q t;have g4:=H.at q g4;have a6:=a5.frame H.next fun i E=>H.get i (s5.lt i E) id
  have au:=u _ _ a6.Eb;have aw:=u _ _ g4;have ax:=u _ _ t;have X:=u _ _ T
  try simp only[Aa,Aw]
  rw[Ku au,C8 a6.Eb rfl]
  try simp only[Aa,Aw]
  rw[Ku aw,Bp g4 rfl (Ai (n:=2) rfl)]
  try simp only[Aa,Aw]
  rw[Ku X,Bp T rfl (l':=p) (by rw[Fw (by rw[aH,lp];show 0+64<=64+1;omega),dC,<-lp,fF])]
  try simp only[Aa,Aw]
  rw[Ku ax,Bp t rfl (Evt.Bpa w)]
  try simp only[Aa,Aw]
  refine Ok.bE (Bp7 (K:=K) lp w.len up w.u8 (D4 u) (by omega)) (fun _ _ p=>p.2.1) ?_;rintro _ bt Y ⟨rfl,_,_⟩ bu L;have O:=L.hb u;have s7:=s6.ext L;have a7:=a6.frame L.next fun i E=>L.get i (s6.lt i E) id
  have T:=L.at u T
  try simp only[Aa,Aw]
  rw[Ku X,Al T rfl (v:=I k) (by rw[bV (by omega),lp];rfl)];simp only[Aa,Aw,I,Ac];have U:=Az8 lp w.len;rw[Ay (l:=Abt p e.pat++[I (Dz .i64 (k+1))]) (by
   show Afp (Ed [(0,64),(64,1)]) [(0,.agg (Abt p e.pat)),(1,.int .i64 (Dz .i64 (k+1)))] (List.replicate 64 (.int .u8 0)++[.int .i64 0])=_;have e1:O0 (List.replicate 64 (EV.int .u8 0)++[EV.int .i64 0]) 0 (Abt p e.pat)=some (Abt p e.pat++[EV.int .i64 0]):=by
    rw[Aqy (by rw[aH,U,bQ];show 0+64<=64+1;omega),U];rfl
   have e2:O0 (Abt p e.pat++[EV.int .i64 0]) 64 [EV.int .i64 (Dz .i64 (k+1))]=some (Abt p e.pat++[I (Dz .i64 (k+1))]):=by
    rw[Aqy (by rw[aH,U];show 64+1<=64+1;omega),<-U,fF,dX (by rw[aH];exact aE _),dK]
   show Bf (Nat.beq (Gk (Abt p e.pat)) 64) (oB (fun z=>Afp (Ed [(0,64),(64,1)]) [(1,.int .i64 (Dz .i64 (k+1)))] z) (O0 (List.replicate 64 (EV.int .u8 0)++[EV.int .i64 0]) 0 (Abt p e.pat))) none=_;rw[Bc,U,cO,Ak,e1];show oB (fun z=>some z) (O0 (Abt p e.pat++[EV.int .i64 0]) 64 [EV.int .i64 (Dz .i64 (k+1))])=_;rw[e2];rfl)]
  obtain⟨aa,eu,ay⟩:=A9o (h:=Y.lift) (M:=M) (ms:=ms) (by rw[Ci];exact a7.map) a7.marks e.Aj e.off (p:=Abt p e.pat) (n:=Dz .i64 (k+1)) (up.xor w.u8) U;simp only[kp,I]at eu;have lM:=O _ _ a7.map;refine Ok.bC (S:=fun i=>i=M) (P:=fun v h'=>v=.tuple []/\h'=Y.lift.put M (.map aa)) ⟨_,_,eu,rfl,rfl⟩ (fun _ _ p=>by rw[p.2];exact(Av.refl (S:=fun i=>i=M) _).Ar (.inl rfl) (h:=Y.lift) lM _) ?_;rintro _ _ h9 bz ⟨rfl,rfl⟩ ad c9 _;obtain⟨s8,c8,b6⟩:=s7.Bm9 a7 O ay;have e9:∀i,h9.get i=(Y.put M (.map aa)).get i:=fun i=>by
   rw[ad.get,Ab.get_put,Ab.get_put,Ci]
  have n9:h9.next=Y.next:=ad.next
  have s9:=s8.frame (h':=h9) (by rw[n9];exact aE _) fun i _=>e9 i
  refine fin h9 _ s9 (gr h9 (by have:=C.next;have:=H.next;have:=L.next;omega)) ?_ (c9.hb O);refine((Ext.to C).trans ((Ext.to H).trans (Ext.to L))).then c9 fun i E _=>?_
  subst E;exact a4.sub.2.2.1
 ·simp only[hn,aN,aB,Aa]
  exact fin h4 _ s4 (gr h4 (aE _)) (Av.refl _) J
theorem Ak5.own{M qc qh f o:Nat}{cs hs q t:EV}{S:Lk}(a:Ak5 h D V M qc qh cs hs ms S F G)(hb:HB h){Tw:List Evt}
 (g:h'.get D=some (.cells [.ptr V 0,q,t,.map M] 143)) (rc:Cs h' q f 32 68 ev.length (ev.map Evt.cells).flatten) (H:Cs h' t o 32 68 Tw.length (Tw.map Evt.cells).flatten)
 (n:h.next<=h'.next) (k:∀i,i<h.next->i≠D->(0<S.ev.length->i≠qc)->(0<S.Tw.length->i≠qh)->h'.get i=h.get i) (sz:∀i,G i->i<h.next)
 (C:0<ev.length->h.next<=f/\f<h'.next\/f=qc/\0<S.ev.length) (E:0<Tw.length->h.next<=o/\o<h'.next\/o=qh/\0<S.Tw.length) (ne:0<ev.length->0<Tw.length->f≠o) :
 Ak5 h' D V M f o q t ms ⟨S.dv,ev,Tw⟩ F (Bg G h h'):=by
 obtain⟨b1,b2,b3,b4,J⟩:=a.sub;obtain⟨c1,c2,c3,c4,T⟩:=a.apart;have L:=hb _ _ a.map;have O:h'.get M=h.get M:=k _ L (Bb a.map a.Eb (by simp)) (fun y=>Bb a.map (a.Lm.block y) (by simp)) (fun y=>Bb a.map (a.Ax3.block y) (by simp));refine⟨g,by rw[O];exact a.map,a.marks,rc,H,a.dev.frame n fun i u=>k i (sz i (b1 i u)) (fun y=>c1 (y▸u)) (fun y z=>c3 y (z▸u)) (fun y z=>c4 y (z▸u)),⟨fun i u=>.inl (b1 i u),.inl b2,.inl b3,fun y=>?_,fun y=>?_⟩,⟨c1,c2,fun y z=>?_,fun y z=>?_,ne⟩⟩
 ·rcases C y with z|⟨z,v⟩
  ·exact .inr z
  ·rw[z];exact .inl (b4 v)
 ·rcases E y with z|⟨z,v⟩
  ·exact .inr z
  ·rw[z];exact .inl (J v)
 ·rcases C y with x|⟨x,B⟩
  ·have:=sz _ (b1 _ z);omega
  ·rw[x]at z;exact c3 B z
 ·rcases E y with x|⟨x,B⟩
  ·have:=sz _ (b1 _ z);omega
  ·rw[x]at z;exact c4 B z
theorem Bks(A:Bj disp)(hK:1000<K)(hd:7<=d){S:Lk}(s:G2 h D S G)(hb:HB h)(w:e.Wf)(hn:S.ev.length+S.Tw.length<200):
 Ok (Ae TT disp K d false 155 [.ptr D 0,.agg e.cells] h) fun v h'=>G2 h' D { S with dv:=S.dv.Xy e,Tw:=S.Tw++[e] } (Bg G h h')/\Av G h h'/\HB h':=by
 obtain⟨dd,rfl⟩:∃k,d=k+1:=⟨d-1,by omega⟩;rw[Asb A (by omega)];simp only[Al5,Aa];have x1:Ext h (h.new (.cells e.cells 32)):=Av.new _ _;have q:(h.new (.cells e.cells 32)).get h.next=some (.cells e.cells 32):=Ad _ _
 have E:HB (h.new (.cells e.cells 32)):=hb.new _;have s1:=s.ext x1;have n1:(h.new (.cells e.cells 32)).next=h.next+1:=rfl
 generalize h.new (.cells e.cells 32)=h1 at x1 q E s1 n1⊢;have nx:¬G h.next:=fun y=>bS _ (s.lt _ y)
 obtain⟨V,M,qc,qh,cs,hs,ms,F,a⟩:=s1.Qu;have lD:=E _ _ a.Eb;have l3:=E _ _ q;have el:=Evt.len w;rw[Ku lD,C8 a.Eb rfl]
 try simp only[Aa,Aw]
 rw[Ku l3,Bp q rfl (Ai el)]
 try simp only[Aa,Aw]
 rw[Afr (v:=.agg e.cells) (z:=List.replicate 4 (EV.int .i64 0)++List.replicate 64 (EV.int .u8 0)) rfl (by simp) el (by omega),As];obtain⟨h2,e_,U,gx,n2⟩:=nW h1 (.cells (EV.cells (.agg e.cells)) 32);rw[e_];have t:=U.hb E;have q:=U.at E q;have s2:=s1.ext U;have B:=a.frame U.next fun i O=>U.get i (s1.lt i O) id
 have r2:Cs h2.lift hs qh 32 68 S.Tw.length (S.Tw.map Evt.cells).flatten:=B.Ax3.frame fun _=>Ci _ _
 obtain⟨h3,e3,r3,n3,c3⟩:=Aeo (x:=.slice h1.next 0 1 1 false) (n:=1) r2 rfl (by omega) (by omega) (by omega) (Ac3 (b:=h1.next) (by rw[Ci];exact gx) el) (by rw[el]);refine Ok.bC (S:=fun i=>0<S.Tw.length/\i=qh) (P:=fun v h'=>v=.slice h2.lift.next 0 (S.Tw.length+1) (S.Tw.length+1) true/\h'=h3) ⟨_,_,e3,rfl,rfl⟩ (fun _ _ p=>by rw[p.2];exact c3) ?_;rintro _ _ h4 s' ⟨rfl,rfl⟩ sm x4 a1;have T:=x4.hb t;rw[Ao7]at r3 n3;rw[Ao7];have a3:¬(0<S.Tw.length/\D=qh):=fun y=>Bb B.Eb (B.Ax3.block y.1) (by simp) y.2
 have gD:h4.get D=some (.cells [.ptr V 0,cs,hs,.map M] 143):=Av.at x4 t B.Eb a3;have r4:Cs h4 (.slice h2.next 0 (S.Tw.length+1) (S.Tw.length+1) true) h2.next 32 68 (S.Tw.length+1) ((S.Tw.map Evt.cells).flatten++e.cells):=r3.frame fun _=>sm.get _
 have q:h4.get h.next=some (.cells e.cells 32):=Av.at x4 t q fun y=>by
  have:=B.Ax3.block y.1;exact Bb q this (by simp) y.2
 have W:=T _ _ gD
 try simp only[Aa]
 rw[Lf (by rcases a1 with rfl|⟨w,rfl,_⟩<;>kernel_rfl)];refine Ok.st1 gD rfl rfl (by show 2<4;decide) ?_;simp only[List.set];have a6:=T _ _ q;have ag:h2.next<h4.next:=by
  have:=r4.block (by omega);exact T _ _ this
 have H:(h4.put D (.cells [EV.ptr V 0,cs,.slice h2.next 0 (S.Tw.length+1) (S.Tw.length+1) true,.map M] 143)).get D=some (.cells [EV.ptr V 0,cs,.slice h2.next 0 (S.Tw.length+1) (S.Tw.length+1) true,.map M] 143):=Af _ _ _;have k5:∀i,i≠D->(h4.put D (.cells [EV.ptr V 0,cs,.slice h2.next 0 (S.Tw.length+1) (S.Tw.length+1) true,.map M] 143)).get i=h4.get i:=fun i O=>Ag _ (cV O)
 have n5:(h4.put D (.cells [EV.ptr V 0,cs,.slice h2.next 0 (S.Tw.length+1) (S.Tw.length+1) true,.map M] 143)).next=h4.next:=rfl
 have u:HB (h4.put D (.cells [EV.ptr V 0,cs,.slice h2.next 0 (S.Tw.length+1) (S.Tw.length+1) true,.map M] 143)):=T.put W _;have c5:Av (Bg G h1 h2) h2 (h4.put D (.cells [EV.ptr V 0,cs,.slice h2.next 0 (S.Tw.length+1) (S.Tw.length+1) true,.map M] 143)):=(x4.mono (fun i O=>.inl (by rw[O.2];exact B.sub.2.2.2.2 O.1))).Ar (.inl (.inl a.sub.2.1)) W _;generalize h4.put D (.cells [EV.ptr V 0,cs,.slice h2.next 0 (S.Tw.length+1) (S.Tw.length+1) true,.map M] 143)=f at H k5 n5 u c5⊢;have ai:h.next≠D:=fun y=>nx (y▸a.sub.2.1)
 have q:f.get h.next=some (.cells e.cells 32):=by rw[k5 _ ai];exact q
 have aj:D<f.next:=by rw[n5];exact W
 have al:h.next<f.next:=by rw[n5];exact a6
 have a5:Ak5 f D V M qc h2.next cs (.slice h2.next 0 (S.Tw.length+1) (S.Tw.length+1) true) ms ⟨S.dv,S.ev,S.Tw++[e]⟩ F (Bg G h2 f):=by
  refine B.own t H ?_ ?_ c5.next (fun i O h1 _ h3=>?_) s2.lt (fun y=>.inr ⟨rfl,y⟩) (fun _=>.inl ⟨aE _,by rw[n5];exact ag⟩) (fun y _=>?_)
  ·refine B.Lm.frame fun y=>?_
   have gc:=B.Lm.block y;rw[k5 _ (Bb gc B.Eb (by simp)),Av.at x4 t gc fun z=>B.apart.2.2.2.2 y z.1 z.2,gc]
  ·rw[aH,cX,dZ]
   show Cs f _ _ 32 68 (S.Tw.length+1) ((S.Tw.map Evt.cells).flatten++(e.cells++[]));rw[dK];exact r4.frame fun _=>k5 _ (by have:=t _ _ B.Eb;omega)
  ·rw[k5 i h1]
   exact x4.get i O fun y=>h3 y.1 y.2
  ·have:=t _ _ (B.Lm.block y);omega
 have a7:∀i,Bg G h2 f i->i<f.next:=Bg.lt s2.lt c5.next
 have s5:G2 f D ⟨S.dv,S.ev,S.Tw++[e]⟩ (Bg G h2 f):=by
  refine⟨a7,⟨by rw[aH];show S.ev.length+(S.Tw.length+1)<=200;omega,s.wf.wf,fun x hx=>?_⟩,V,M,qc,_,cs,_,ms,F,a5⟩;rcases bO.1 hx with hx|hx
  ·exact s.wf.hwf x hx
  ·rw[aO.1 hx];exact w
 have au:Av G h f:=((Ext.to x1).trans (Ext.to U)).then c5 fun j hj hl=>by
  rcases hj with y|y
  ·exact y
  ·omega
 have cG:∀o,f.next<=o.next->Av (Bg G h2 f) f o->Av G h o:=fun o l c=>au.then c fun j hj hl=>by
  rcases hj with y|y
  ·exact y
  ·have:=x1.next;have:=U.next;omega
 have fin:∀(o:Ab) (dv:Dv),G2 o D ⟨dv,S.ev,S.Tw++[e]⟩ (Bg (Bg G h2 f) f o)->Av (Bg G h2 f) f o->HB o->dv=S.dv.Xy e->Ok (some (.tuple [],o)) fun v h'=>G2 h' D ⟨S.dv.Xy e,S.ev,S.Tw++[e]⟩ (Bg G h h')/\Av G h h'/\HB h':=fun o dv X C J he=>by
  subst he;refine .ret ⟨X.mono (fun i O=>?_) (Bg.lt s.lt (cG o C.next C).next),cG o C.next C,J⟩;rcases O with(y|y)|y
  ·exact .inl y
  ·have:=x1.next;have:=U.next;have:=C.next;exact .inr ⟨by omega,by omega⟩
  ·exact .inr ⟨by have:=au.next;omega,y.2⟩
 obtain⟨_,e1,e2,_⟩:=e.one;rw[Al q rfl e1];simp only[Ac,I];have L:∀st:Nat,S.dv.fail e.Aj st=S.dv.Xy e ->
  Ok (L5 6 63 (((DX.ld ⟨0,[],[],[],[]⟩ 3 D).ld 5 h.next)) f (fun h=>Rc K (.ptr V 0) (I e.Aj) (I st) h) fun _ h s=>some (.tuple [],h)) fun v h'=>G2 h' D ⟨S.dv.Xy e,S.ev,S.Tw++[e]⟩ (Bg G h h')/\Av G h h'/\HB h':=by
  intro st ba;refine Ok.bC (S:=F) (Bee (K:=K) a5.dev.lift (D4 u) e.Aj st) (fun _ _ p=>p.2.1) ?_;rintro _ h6 o s' ⟨d6,_,bb⟩ sm C _;obtain⟨X,Y,_⟩:=s5.call a5 u d6 sm C;exact fin o _ X Y (sm.hb bb) ba
 by_cases k1:e.kind=1
 ·simp only[k1,aB,Aa]
  rw[Bp q rfl (Ai el)];refine(Bal (K:=K) A hK (by omega) s5 u w).An ?_;rintro _ o ⟨X,C,J⟩;exact fin o _ X C J (by unfold Dv.Xy;rw[aG k1])
 ·simp only[k1,aA,Aa]
  by_cases k2:e.kind=2
  ·simp only[k2,aB,Aa,Aw]
   rw[Ku aj,C8 H rfl]
   try simp only[Aa,Aw]
   rw[Ku al,Al q rfl e2];exact L 3 (by unfold Dv.Xy;rw[aF k1,aG k2])
  ·simp only[k2,aA,Aa]
   by_cases k3:e.kind=3
   ·simp only[k3,aB,Aa,Aw]
    rw[Ku aj,C8 H rfl]
    try simp only[Aa,Aw]
    rw[Ku al,Al q rfl e2];exact L 4 (by unfold Dv.Xy;rw[aF k1,aF k2,aG k3])
   ·simp only[k3,aA,Aa]
    by_cases k4:e.kind=4
    ·simp only[k4,aB,Aa,C8 H rfl]
     refine(A85 (K:=K) a5.dev u).An ?_;rintro _ o ⟨d9,C,J⟩;obtain⟨X,Y⟩:=s5.put a5 u (d9.grow a5.dev.lt C.next) C;exact fin o _ X Y J (by unfold Dv.Xy;rw[aF k1,aF k2,aF k3,aG k4])
    ·simp only[k4,aA,Aa]
     exact fin f S.dv (s5.grow s5.lt (aE _)) (Av.refl _) u (by unfold Dv.Xy;rw[aF k1,aF k2,aF k3,aF k4])
theorem Bkq(q o n r:Nat)(op:Bool)(k:EV->R):Kl An2 (bin TT .eql 141) (.slice q o n r op) .Ao k=k (.bool false):=by kernel_rfl
theorem Bfd(q o z:Nat)(k:EV->R):Kl An2 (bin TT .eql 141) (.tail q o z) .Ao k=k (.bool false):=by kernel_rfl
theorem Bah{q:Nat}(w:∀x∈e::ev,x.Wf)(L:ev.length<=65000)(B:h.get q=some (.vec ((e::ev).map Evt.cells).flatten 32 68))(hb:HB h){o:EV->Ab->R}
 (t:∀v h' q',Cs h' v q' 32 68 ev.length (ev.map Evt.cells).flatten->Ext h h'->(0<ev.length->h.next<=q')->Ok (o v h') Q) :
 Ok (Ant 68 (.slice q 0 (e::ev).length (e::ev).length true) (some (.int .i64 1)) none none fun v=>An (D6 K v h) o) Q:=by
 have a:Ext h (h.new (.cells [] 32)):=Av.new _ _;have u:Cd (List.replicate 4 (.int .i64 0)++List.replicate 64 (.int .u8 0)) 32 68 0 [] h=some (.slice h.next 0 0 0 false,h.new (.cells [] 32)):=rfl;have wl:∀x∈ev.map Evt.cells,x.length=68:=fun x C=>by
  obtain⟨y,E,rfl⟩:=bc.1 C;exact Evt.len (w y (aT _ E))
 have fl:(ev.map Evt.cells).flatten.length=ev.length*68:=by rw[Ape _ wl,bX]
 rcases dI ev.length with h0|hp
 ·have:ev = []:=cR.1 h0
  subst this;have e1:∀k:EV->R,Ant 68 (.slice q 0 [e].length [e].length true) (some (.int .i64 1)) none none k=k (.tail q 68 0):=fun k=>rfl
  rw[e1];simp only[D6,Bfd,Aa,Hc];rw[u,As];have:E0 32 68 (.slice h.next 0 0 0 false) (.tail q 68 0) (h.new (.cells [] 32))=some (.slice h.next 0 0 0 false,h.new (.cells [] 32)):=by unfold E0;rfl
  rw[this,As]
  try simp only[Aa]
  exact t _ _ 0 (.empty _ _ _ _ _) a fun y=>absurd y (bS _)
 ·obtain⟨m,hm⟩:∃m,ev.length=m+1:=⟨ev.length-1,by omega⟩
  have e1:∀k:EV->R,Ant 68 (.slice q 0 (e::ev).length (e::ev).length true) (some (.int .i64 1)) none none k=k (.slice q 68 ev.length ev.length true):=fun k=>by
   rw[bH,hm];rfl
  rw[e1];simp only[D6,Bkq,Aa,Hc];rw[u,As];have H:N9 (h.new (.cells [] 32)) 68 ev.length (.slice q 68 ev.length ev.length true)=some (ev.map Evt.cells).flatten:=by
   show Bf (Nat.beq ev.length 0) (some []) (Ab4 _ q 68 (Nat.mul ev.length 68))=_;rw[show Nat.beq ev.length 0=false by rw[hm];rfl,Bo];unfold Ab4 Az3;rw[a.at hb B];have el:=Evt.len (w e (aX ..));show Oy (e.cells++(ev.map Evt.cells).flatten) 68 (ev.length*68)=_;rw[Fw (by rw[aH,el,fl];exact aE _),<-el,gH,bR (by rw[fl,el];exact aE _)]
  have ap:=Ym (h:=h.new (.cells [] 32)) (b:=h.next) (e:=32) (x:=.slice q 68 ev.length ev.length true) rfl (by omega) H fl 0;rw[show ∀(x:R) (k f:EV->Ab->R),An (An x k) f=An x fun v h=>An (k v h) f from fun x k f=>by cases x<;>rfl];refine ap.An ?_;rintro v h2 ⟨q',r,J,l⟩;rw[As];exact t v h2 q' r (a.trans J) fun y=>by have:=l y;have:=a.next;omega
theorem Bok(A:Bj disp)(hK:1000<K)(hd:9<=d):∀(m:Nat) (S:Lk) (h:Ab) (G:Nat->Prop),S.ev.length<m->G2 h D S G->HB h ->
 Ok (Mb (Ae TT disp K d false) (Ae TT disp K d true) K m (.ptr D 0) h) fun v h'=>G2 h' D S.due (Bg G h h')/\Av G h h'/\HB h':=by
 intro m;induction m with
 | zero=>intro S h G hm;omega
 | succ m ih=>
  intro S h G hm s hb;obtain⟨V,M,qc,qh,cs,hs,ms,F,a⟩:=s.Qu;obtain⟨zl,z,q,b,_⟩:=a.dev.Qu;have lD:=hb _ _ a.Eb;have lV:=hb _ _ b.dev;have stay:S.due=S->Ok (some (.tuple [],h)) fun(_:EV) h'=>G2 h' D S.due (Bg G h h')/\Av G h h'/\HB h':=fun y=>by
   rw[y];exact .ret ⟨s.grow s.lt (aE _),Av.refl _,hb⟩
  simp only[Mb,Aa,Aw,Cv lD,C8 a.Eb rfl];have O:Yo K (.ptr V 0) h.lift=some (.bool S.dv.down,h.lift):=by
   simp only[Yo,Aa,C8 b.lift.dev rfl]
  rw[Aqs O];obtain⟨dv,ev,Tw⟩:=S;simp only at a O b hm⊢;cases T:dv.down with
  | true=>
   simp only[Aa,Ac,Aw,Qa,Md];refine stay ?_;unfold Lk.due;cases ev with
   | nil=>rfl
   | cons e r=>unfold A2w;rw[aG (.inl T)]
  | false=>
   simp only[Aa,Ac,Aw];rw[Ku lD,C8 a.Eb rfl];simp only[Aa,a.Lm.F3,Ac];cases ev with
   | nil=>
    simp only[fM,Qa,Md,Aa,Ac];exact stay rfl
   | cons e r=>
    have we:=s.wf.wf e (aX ..);have el:=Evt.len we;have gq:=a.Lm.block (Nat.succ_pos _);have lq:=hb _ _ gq;have c0:Oy (((e::r).map Evt.cells).flatten) 0 68=some e.cells:=by
     show Oy (e.cells++_) 0 68=_;rw[Fw (by rw[aH,el];omega),dC,<-el,fF]
    have ah:(((e::r).map Evt.cells).flatten)[0]? = some (I e.Qu):=rfl;rw[aM (show(0:Int)<((e::r).length:Int) by rw[bH];omega)];simp only[Qa,Aa,Ac,Aw];rw[Ku lD,C8 a.Eb rfl]
    try simp only[Aa,Aw]
    rw[show ∀k:EV->R,Z8 68 cs (.int .i64 0) k=k (.ptr qc (0*68))from fun k=>a.Lm.ix (Nat.succ_pos _) .i64 k]
    try simp only[Aa,Aw]
    rw[Ku lq,Al gq rfl ah]
    try simp only[Aa,Aw]
    rw[Ku lD,C8 a.Eb rfl]
    try simp only[Aa,Aw]
    have ai:Vv K (.ptr V 0) h.lift=some (I dv.cnt,h.lift):=by
     simp only[Vv,Aa,C8 b.lift.dev rfl]
    rw[Aqs ai];simp only[I,Ac];by_cases B:e.Qu<=dv.cnt
    ·rw[aM B]
     simp only[Md,Aa,Alr,C8 a.Eb rfl];rw[show ∀k:EV->R,Z8 68 cs (.int .i64 0) k=k (.ptr qc (0*68))from fun k=>a.Lm.ix (Nat.succ_pos _) .i64 k];rw[Bp gq rfl c0]
     try simp only[Aa]
     have aj:(List.replicate 4 (EV.int .i64 0)++List.replicate 64 (EV.int .u8 0)).length=68:=by simp
     refine Ok.st e.cells (Ad _ _) rfl (by show Gk e.cells=68;rw[Bc,el]) (Bm (by rw[aj];exact el.symm)) ?_;obtain⟨E,e_,L,g2,_⟩:=nP h (.cells (List.replicate 4 (EV.int .i64 0)++List.replicate 64 (EV.int .u8 0)) 32) (.cells e.cells 32);rw[e_];have f:=L.hb hb;have s1:=s.ext L;have o:=a.frame L.next fun i t=>L.get i (s.lt i t) id
     have ao:=o.Lm.block (Nat.succ_pos _);have aq:=o.Lm.slice (Nat.succ_pos _);subst aq;simp only[Aa,C8 o.Eb rfl];have au:=s.wf.ev;refine Bah (K:=K) s.wf.wf (by simp only[bH]at au;omega) ao f ?_;intro v h2 q' r2 u H;have J:=u.hb f;have s2:=s1.ext u;have a2:=o.frame u.next fun i t=>u.get i (s1.lt i t) id
     have g2:=u.at f g2
     try simp only[Aa]
     have U:=J _ _ a2.Eb;refine Ok.st1 a2.Eb r2.plain.1 r2.plain.2 (by show 1<4;decide) ?_;simp only[List.set];have W:(h2.put D (.cells [EV.ptr V 0,v,hs,.map M] 143)).get D=some (.cells [EV.ptr V 0,v,hs,.map M] 143):=Af _ _ _;have k3:∀i,i≠D->(h2.put D (.cells [EV.ptr V 0,v,hs,.map M] 143)).get i=h2.get i:=fun i t=>Ag _ (cV t)
     have X:HB (h2.put D (.cells [EV.ptr V 0,v,hs,.map M] 143)):=J.put U _;have c3:Av G h2 (h2.put D (.cells [EV.ptr V 0,v,hs,.map M] 143)):=(Av.refl h2).Ar (.inl a.sub.2.1) U _;have n3:(h2.put D (.cells [EV.ptr V 0,v,hs,.map M] 143)).next=h2.next:=rfl
     generalize h2.put D (.cells [EV.ptr V 0,v,hs,.map M] 143)=C at W k3 X c3 n3⊢;have nD:h.next≠D:=by omega
     have g3:C.get h.next=some (.cells e.cells 32):=by rw[k3 _ nD];exact g2
     have rb:0<r.length->q'<h2.next:=fun y=>J _ _ (r2.block y)
     have a3:Ak5 C D V M q' qh v hs ms ⟨dv,r,Tw⟩ F (Bg G E C):=by
      have aw:E.next<=C.next:=by rw[n3];exact u.next
      have Y:∀i,i<E.next->i≠D->C.get i=E.get i:=fun i t ax=>by rw[k3 i ax,u.get i t id]
      refine o.own f W (r2.frame fun y=>k3 _ (by have:=H y;have:=f _ _ o.Eb;omega)) (o.Ax3.frame fun y=>Y _ (f _ _ (o.Ax3.block y)) (Bb (o.Ax3.block y) o.Eb (by simp))) aw (fun i t E _ _=>Y i t E) s1.lt
       (fun y=>.inl ⟨H y,by rw[n3];exact rb y⟩) (fun y=>.inr ⟨rfl,y⟩) fun y z=>?_
      have:=H y;have:=f _ _ (o.Ax3.block z);omega
     have ay:Av G h C:=((Ext.to L).trans (Ext.to u)).trans c3;have s3:G2 C D ⟨dv,r,Tw⟩ (Bg G E C):=by
      refine⟨Bg.lt s1.lt (by rw[n3];exact u.next),⟨?_,fun x hx=>s.wf.wf x (aT _ hx),s.wf.hwf⟩,V,M,q',qh,v,hs,ms,F,a3⟩;have:=s.wf.ev;simp only[bH]at this⊢;omega
     rw[Bp g3 rfl (Ai el)];refine(Bks (K:=K) A hK (by omega) s3 X we (by have:=s.wf.ev;simp only[bH]at this⊢;omega)).An ?_;rintro _ h4 ⟨s4,c4,az⟩;have aa:(Lk.mk dv (e::r) Tw).due=(Lk.mk (dv.Xy e) r (Tw++[e])).due:=by
      unfold Lk.due
      conv=>lhs;unfold A2w
      rw[aF (by rw[T];rintro(y|y);exact absurd y (by simp);exact y B)]
     rw[aa];refine(ih ⟨dv.Xy e,r,Tw++[e]⟩ h4 _ (by simp only[bH]at hm⊢;omega) s4 az).mono ?_;rintro _ h5 ⟨s5,c5,a0⟩;have t1:=L.next
     have t2:=u.next
     have t4:=c4.next
     have t5:=c5.next
     have a6:Av G h h4:=ay.then c4 fun j hj hl=>by
      rcases hj with y|y
      ·exact y
      ·omega
     have ab:Av G h h5:=a6.then c5 fun j hj hl=>by
      rcases hj with(y|y)|y
      ·exact y
      ·omega
      ·omega
     refine⟨s5.mono (fun i t=>?_) (Bg.lt s.lt ab.next),ab,a0⟩;rcases t with((y|y)|y)|y
     ·exact .inl y
     ·exact .inr ⟨by omega,by omega⟩
     ·exact .inr ⟨by omega,by omega⟩
     ·exact .inr ⟨by omega,y.2⟩
    ·rw[aP B]
     simp only[Md,Aa];refine stay ?_;unfold Lk.due A2w;rw[aG (.inr B)]
theorem Bar(A:Bj disp)(hK:1000<K)(S:Lk):∀d,12<=d->Btj disp K d S:=by
 intro d hd h D G s hb;obtain⟨e,rfl⟩:∃k,d=k+1:=⟨d-1,by omega⟩;rw[Aw4 A (by omega)];exact Bok (K:=K) A hK (by omega) K S h G (by have:=s.wf.ev;omega) s hb
section
def Out(F:Nat->Prop)(h:Ab):Nat->Prop:=fun i=>i<h.next/\¬F i
abbrev Kf(F:Nat->Prop):Ab->Ab->Prop:=Av fun i=>¬F i
theorem Av.kf(c:Av (Out F h) h h'):Kf F h h':=c.mono fun _ y=>y.2
theorem Ext.kf(c:Ext h h'):Kf F h h':=Ext.to c
theorem Kf.less(c:Kf F h h')(s:∀i,F' i->F i):Kf F' h h':=c.mono fun i y z=>y (s i z)
theorem Kf.at(c:Kf F h h')(hb:HB h){o:Ec}(g:h.get i=some o)(a:F i):h'.get i=some o:=Av.at c hb g fun y=>y a
theorem Ext.Axz{a h2:Ab}(x:Ext h a)(c:Kf (Bg F h a) a h2):Kf F h h2:=by
 refine(Ext.to (S:=fun i=>¬F i) x).then c fun i y f z=>y (.inl z)
theorem W7.frame{H:Nat->Prop}(s:W7 h m S H)(n:h.next<=h'.next)(e:∀i,H i->h'.get i=h.get i):W7 h' m S H:=by
 obtain⟨lt,D,p,bl,ql,np,q,c,G,a⟩:=s;obtain⟨t1,t2,t3,t4,t5,t6⟩:=a.sub;have k:∀i o,h.get i=some o->H i->h'.get i=some o:=fun i o g f=>by rw[e i f];exact g
 exact⟨fun i f=>aK (lt i f) n,D,p,bl,ql,np,q,c,G,⟨k _ _ a.Kk.Kk t2,k _ _ a.Kk.A21 t3⟩,
  ⟨a.Hp.pos,k _ _ a.Hp.Hp t4,k _ _ a.Hp.row t5,fun d hd=>k _ _ (a.Hp.que d hd) (t6 d hd).1,fun d hd=>k _ _ (a.Hp.chan d hd) (t6 d hd).2,a.Hp.inj⟩,
  a.psz,a.drv.frame n fun i f=>e i (t1 i f),a.apart,a.sub⟩
structure Mi.Wp(S:Mi):Prop where
 sm:Sm S.g
 ps:∀d,d<S.g.D.toNat->∀x∈S.ps d,Bu S.g x=d/\¬S.bad x.toNat=1
structure Mi.Wf(S:Mi):Prop extends S.Wp where
 op:(S.a = -1/\S.b = -1)\/((0<=Bu S.g S.a/\¬S.bad S.a.toNat=1)/\(0<=Bu S.g S.b/\¬S.bad S.b.toNat=1))
theorem Af4(s:Sm g){z:Int}(h:0<=Bu g z):Rng z:=by
 have f:=s.d1;have h2:=s.z1;have k:=s.d0;have h4:=s.z0;rcases Ko s z with y|⟨_,_,_,o,q⟩
 ·omega
 ·obtain⟨t,m1⟩:=Va (a:=g.D) (b:=g.Z) (A:=8) (B:=64) (by omega) (by omega) (by omega) (by omega)
  exact⟨by omega,by omega⟩
theorem Lc(s:Sm g){z:Int}(h:0<=Bu g z):0<=z:=by
 rcases Ko s z with y|⟨_,_,_,a,f⟩<;>omega
theorem Mi.Wf.rng(w:S.Wf):Rng S.a/\Rng S.b:=by
 rcases w.op with⟨f,h2⟩|⟨f,h2⟩
 ·rw[f,h2];exact⟨⟨by omega,by omega⟩,⟨by omega,by omega⟩⟩
 ·exact⟨Af4 w.sm f.1,Af4 w.sm h2.1⟩
theorem A7p(w:∀d,d<g.D.toNat->∀x∈ps d,Bu g x=d/\P x)(n:Nat)(z:Int)(f:0<=Bu g z->P z):∀d,d<g.D.toNat->∀x∈(Abk g n ps z).2 d,Bu g x=d/\P x:=by
 intro d hd x a;unfold Abk at a;split at a
 ·exact w d hd x a
 ·rename_i h0
  split at a
  ·exact w d hd x a
  ·split at a
   ·simp only[upd]at a
    split at a
    ·rename_i e
     subst e;rcases bO.1 a with a|a
     ·exact w _ hd x a
     ·rw[aO.1 a];exact⟨by omega,f (by omega)⟩
    ·exact w d hd x a
   ·exact w d hd x a
theorem A9t(S:Mi)(z u:Int):(S.leave z u).1.g=S.g/\(S.leave z u).1.a=S.a/\(S.leave z u).1.b=S.b/\(S.leave z u).1.u=S.u/\(S.leave z u).1.bad=S.bad:=by
 unfold Mi.leave;split
 ·exact⟨rfl,rfl,rfl,rfl,rfl⟩
 ·split<;>exact⟨rfl,rfl,rfl,rfl,rfl⟩
theorem Mi.Wp.leave(w:S.Wp)(z u:Int):(S.leave z u).1.Wp:=by
 unfold Mi.leave;split
 ·exact w
 ·rename_i h0
  split
  ·refine⟨w.sm,A7p w.ps _ _ fun a y=>h0 (.inr (.inl ?_))⟩
   unfold Mi.F0;rw[aM a,aM y];rfl
  ·exact⟨w.sm,w.ps⟩
theorem Ba5(S:Mi):S.close.1.g=S.g/\S.close.1.a = -1/\S.close.1.b = -1/\S.close.1.u=0/\S.close.1.bad=S.bad:=by
 unfold Mi.close;obtain⟨f,k,o,a4,a5⟩:=A9t { S with a:=-1,b:=-1,u:=0 } S.a S.u;obtain⟨b1,b2,b3,b4,q⟩:=A9t (({ S with a:=-1,b:=-1,u:=0 }:Mi).leave S.a S.u).1 S.b S.u;exact⟨b1.trans f,b2.trans k,b3.trans o,b4.trans a4,q.trans a5⟩
theorem Mi.Wp.close(w:S.Wp):S.close.1.Wf:=by
 have:({ S with a:=-1,b:=-1,u:=0 }:Mi).Wp:=⟨w.sm,w.ps⟩;obtain⟨o,f,k,a4,a5⟩:=Ba5 S;exact { toWp:=(this.leave _ _).leave _ _,op:=.inl ⟨f,k⟩ }
theorem Mi.Wp.mark(w:S.Wp){z:Int}(o:0<=Bu S.g z):(S.mark z).Wp:=by
 refine⟨w.sm,fun d hd x a=>?_⟩;have a:x∈S.dropped z d:=a;unfold Mi.dropped at a;rw[aF (by omega)]at a;have key:∀x,Bu S.g x=d/\¬S.bad x.toNat=1->¬x=z->Bu S.g x=d/\¬(S.mark z).bad x.toNat=1:=fun x a q=>by
  refine⟨a.1,?_⟩;show ¬(if x.toNat=z.toNat then(1:Int)else S.bad x.toNat)=1;have f:=Lc w.sm o;have h2:=Lc w.sm (z:=x) (by rw[a.1];omega);rw[aF (by omega)];exact a.2
 simp only[upd]at a;split at a
 ·rename_i e
  have h2:=(dU.1 a).2;have f:=w.ps d hd x (by rw[e];exact(dU.1 a).1);exact key x f (dN h2)
 ·rename_i k
  have f:=w.ps d hd x a;refine key x f fun y=>k ?_
  subst y;omega
theorem Mi.Wf.Cl(w:S.Wf)(z:Int):(S.Cl z).1.Wf:=by
 unfold Mi.Cl;split
 ·exact w
 ·rename_i a
  have a:0<=Bu S.g z:=by omega
  split
  ·exact w
  ·split
   ·rename_i f
    refine { toWp:=w.toWp.mark a,op:=?_ };rcases w.op with y|⟨o,q⟩
    ·exact .inl y
    ·have key:∀x,(0<=Bu S.g x/\¬S.bad x.toNat=1)->¬z=x->0<=Bu S.g x/\¬(S.mark z).bad x.toNat=1:=fun x k f=>by
      refine⟨k.1,?_⟩;show ¬(if x.toNat=z.toNat then(1:Int)else S.bad x.toNat)=1;have t:=Lc w.sm a;have h2:=Lc w.sm k.1;rw[aF (by omega)];exact k.2
     exact .inr ⟨key _ o f.1,key _ q f.2⟩
   ·exact(w.toWp.mark a).close
theorem Aoi{ps':Nat->List Int}{x y:Int}(w:∀d,d<g.D.toNat->∀x∈ps d,Bu g x=d/\P x)(h:Aj8 ps g.D.toNat=some (x,y,ps')):
 ∃a b:Nat,a<g.D.toNat/\b<g.D.toNat/\a≠b/\ps a=x::ps' a/\ps b=y::ps' b/\(∀d,d≠a->d≠b->ps' d=ps d)/\Ew ps (-1) g.D.toNat=a/\Ew ps a g.D.toNat=b/\(Bu g x=a/\P x)/\(Bu g y=b/\P y):=by
 unfold Aj8 at h;split at h
 ·cases h
 ·rename_i hp
  obtain⟨a,b,e1,e2,B,h2,C,h4,E⟩:=A77 hp Av4;rw[e1,e2]at h;injection h with h;injection h with k h;injection h with o f;simp only[aZ]at k o f;obtain⟨H,r,q⟩:∃x r,ps a=x::r:=by cases u:ps a with|nil=>exact absurd u h4|cons x r=>exact⟨x,r,rfl⟩
  obtain⟨J,t,v⟩:∃x r,ps b=x::r:=by cases u:ps b with|nil=>exact absurd u E|cons x r=>exact⟨x,r,rfl⟩
  rw[q]at k f;rw[v]at o f;simp only[List.headD_cons,List.tail_cons]at k o f;subst k;subst o;subst f;refine⟨a,b,B,h2,C,?_,?_,fun d d1 d2=>?_,e1,e2,w a B _ (by rw[q];exact aX ..),w b h2 _ (by rw[v];exact aX ..)⟩
  ·rw[q];simp[upd,C]
  ·rw[v];simp[upd]
  ·simp[upd,d1,d2]
theorem Mi.Wf.ready(w:S.Wf):S.ready.1.Wf:=by
 unfold Mi.ready;split
 ·exact w
 ·split
  ·exact { toWp:=⟨w.sm,w.ps⟩,op:=w.op }
  ·cases hp:Aj8 S.ps S.g.D.toNat with
   | none=>exact { toWp:=⟨w.sm,w.ps⟩,op:=w.op }
   | some t=>
    obtain⟨x,y,ps'⟩:=t;obtain⟨a,b,B,h2,C,k,o,q,_,_,u,v⟩:=Aoi w.ps hp;refine { toWp:=⟨w.sm,fun d hd z f=>?_⟩,op:=.inr ⟨⟨by show 0<=Bu S.g x;omega,u.2⟩,⟨by show 0<=Bu S.g y;omega,v.2⟩⟩ };have f:z∈ps' d:=f;refine w.ps d hd z ?_;by_cases d1:d=a
    ·subst d1;rw[k];exact aT _ f
    ·by_cases d2:d=b
     ·subst d2;rw[o];exact aT _ f
     ·rw[q d d1 d2]at f;exact f
structure Dd(h:Ab)(m:Nat)(S:Mi)(F:Nat->Prop):Prop where
 s:W7 h m S (Out F h)
 lt:∀i,F i->i<h.next
 wf:S.Wf
section
variable{S':Mi}
theorem Dd.made(M:Dd h m S F)(s:W7 h' m S' (Bg (Out F h) h h'))(c:Av (Out F h) h h')(w:S'.Wf):Dd h' m S' F/\Kf F h h':=by
 refine⟨⟨s.mono (fun i a=>?_) fun i a=>a.1,fun i a=>aK (M.lt i a) c.next,w⟩,c.kf⟩;rcases a with a|a
 ·exact⟨aK a.1 c.next,a.2⟩
 ·exact⟨a.2,fun y=>by have:=M.lt i y;omega⟩
theorem Dd.ext(M:Dd h m S F)(hb:HB h)(x:Ext h h'):Dd h' m S (Bg F h h'):=by
 refine⟨(M.s.ext hb x).mono (fun i a=>⟨aK a.1 x.next,fun y=>?_⟩) fun i a=>a.1,Bg.lt M.lt x.next,M.wf⟩;rcases y with y|y
 ·exact a.2 y
 ·have:=a.1;omega
theorem Dd.less(M:Dd h m S F)(s:∀i,F' i->F i):Dd h m S F':=
 ⟨M.s.mono (fun i a=>⟨a.1,fun y=>a.2 (s i y)⟩) fun i a=>a.1,fun i a=>M.lt i (s i a),M.wf⟩
theorem Dd.Ag7 {T:Nat->Prop}(M:Dd h m S F)(c:Av T h h')(t:∀i,T i->i<h.next->F i):Dd h' m S F:=by
 refine⟨(M.s.frame c.next fun i a=>c.get i a.1 fun y=>a.2 (t i y a.1)).mono (fun i a=>⟨aK a.1 c.next,a.2⟩) fun i a=>a.1,fun i a=>aK (M.lt i a) c.next,M.wf⟩
theorem Dd.same(M:Dd h m S F)(sm:Asm h h'):Dd h' m S F:=
 ⟨(M.s.frame (by rw[sm.next];exact aE _) fun i _=>sm.get i).mono (fun i a=>⟨by rw[sm.next];exact a.1,a.2⟩) fun i a=>a.1,fun i a=>by rw[sm.next];exact M.lt i a,M.wf⟩
end
section
variable (A:Bj disp)(hK:10000<K)(M:Dd h m S F)(hb:HB h)
include A hK M hb
theorem Bvu(n:Nat):A0b disp K n:=fun T _ d hd=>Bar A (by omega) T d hd
theorem Bkg(hd:16<=d):Ok (Ae TT disp K d false 147 [.ptr m 0] h) fun v h'=>v=I S.ready.2/\Dd h' m S.ready.1 F/\Kf F h h'/\HB h':=by
 refine(A29 A hK hd (Bvu A hK M hb S.dr.ev.length) (aE _) M.s hb).mono ?_;rintro v h' ⟨e,s,c,a⟩;obtain⟨f,k⟩:=M.made s c M.wf.ready;exact⟨e,f,k,a⟩
theorem Atx(hd:18<=d){z:Int}(f:Rng z):Ok (Ae TT disp K d false 134 [.ptr m 0,I z] h) fun v h'=>v=I (S.Cl z).2/\Dd h' m (S.Cl z).1 F/\Kf F h h'/\HB h':=by
 refine(Aua A hK hd (Bvu A hK M hb S.dr.ev.length) (aE _) M.s hb M.wf.rng.1 M.wf.rng.2 f).mono ?_;rintro v h' ⟨e,s,c,a⟩;obtain⟨o,k⟩:=M.made s c (M.wf.Cl z);exact⟨e,o,k,a⟩
end
end
theorem G2.lift{S:Lk}(d:G2 h D S G):G2 h.lift D S G:=d.frame (aE _) fun i _=>Ci h i
theorem G2.same {a h4:Ab}{S:Lk}(d:G2 a D S (Bg G h.lift a))(sm:Asm a h4):G2 h4 D S (Bg G h h4):=by
 refine(d.frame (h':=h4) (by rw[sm.next];exact aE _) fun j _=>sm.get j).mono (fun j hj=>?_) fun j hj=>?_
 ·rcases hj with y|y
  ·exact .inl y
  ·exact .inr ⟨y.1,by rw[sm.next];exact y.2⟩
 ·rw[sm.next]
  rcases hj with y|y
  ·exact d.lt _ (.inl y)
  ·rw[sm.next]at y;exact y.2
theorem Dd.drv{p bl ql np:Nat}{q c:Nat->Nat}{dr:Lk}(M:Dd h m S F)(hb:HB h)(a:Axk h m D p bl ql np q c S G (Out F h))(d:G2 h' D dr (Bg G h h'))(f:Av G h h'):
 Dd h' m { S with dr:=dr } F/\Kf F h h':=by
 have cH:=f.mono a.sub.1;exact M.made ⟨Bg.lt M.s.lt cH.next,D,p,bl,ql,np,q,c,_,a.Bfy hb d f⟩ cH { toWp:=⟨M.wf.sm,M.wf.ps⟩,op:=M.wf.op }
noncomputable def Mi.put(S:Mi)(e:En)(Aj Ba Ap seq:Int):Mi × Int:=
 if ¬(E9 { e with Ba:=Ba } Aj S.u Ap seq).2=0 then(S,(E9 { e with Ba:=Ba } Aj S.u Ap seq).2)else
 ({ S with dr:=(S.dr.append Aj (Bh (Vc (E9 { e with Ba:=Ba } Aj S.u Ap seq).1))).1 },
  if(S.dr.append Aj (Bh (Vc (E9 { e with Ba:=Ba } Aj S.u Ap seq).1))).2.2=0/\¬(S.dr.append Aj (Bh (Vc (E9 { e with Ba:=Ba } Aj S.u Ap seq).1))).2.1=S.u then 30 else(S.dr.append Aj (Bh (Vc (E9 { e with Ba:=Ba } Aj S.u Ap seq).1))).2.2)
theorem Axp:List.replicate 5 (EV.int .i64 0)++List.replicate 44 (EV.int .u8 0)=Fr.zero.cells:=by kernel_rfl
theorem Bi5(A:Bj disp)(hK:10000<K)(hd:16<=d)(M:Dd h m S F)(hb:HB h){e:En}(w:e.Wf)(Aj Ba Ap seq:Int):
 Ok (Ae TT disp K d false 177 [.ptr m 0,.agg e.cells,I Aj,I Ba,I Ap,I seq] h) fun v h'=>v=I (S.put e Aj Ba Ap seq).2/\Dd h' m (S.put e Aj Ba Ap seq).1 F/\Kf F h h'/\HB h':=by
 obtain⟨dd,rfl⟩:∃k,d=k+1:=⟨d-1,by omega⟩;rw[Asl A (by omega)];have w':({ e with Ba:=Ba }:En).Wf:=⟨w.len,w.u8⟩;have el:=En.Br w;have O:=En.Br w';obtain⟨_,D,p,bl,ql,np,q,c,G,a⟩:=M.s;simp only[Amg,Aa];refine Ok.st1 (Ad _ _) rfl rfl (by show 5<e.cells.length;omega) ?_;obtain⟨h1,T,x1,U,_⟩:=nP h (.cells e.cells 131) (.cells (e.cells.set 5 (I Ba)) 131);rw[T];have U:h1.get h.next=some (.cells ({ e with Ba:=Ba }:En).cells 131):=U
 unfold Mi.put;generalize ({ e with Ba:=Ba }:En)=e' at U w' O⊢;have B:=x1.hb hb;have l7:=B _ _ U;have m1:=a.Kk.ext fun i o g=>x1.at hb g
 have lm:=B _ _ m1.Kk;rw[Ku l7,Db U rfl,Ai O]
 try simp only[Aa,Aw]
 rw[Ku lm,m1.ou]
 try simp only[Aw]
 refine Ok.bE (Aji (K:=K) w' (D4 B) hK Aj S.u Ap seq) (fun _ _ p=>p.2) ?_;rintro _ a7 h2 ⟨rfl,_⟩ _ x2;have ag:=x2.hb B;have W:=A06 w' Aj S.u Ap seq;generalize X:E9 e' Aj S.u Ap seq=fe at W⊢;obtain⟨f,er⟩:=fe;have fl:=Fr.Br W;have zl:=Fr.Br Fr.Ie;simp only[Aa,Axp,Aw];rw[Lf];refine Ok.st f.cells (Ad _ _) rfl (by show Gk f.cells=49;rw[Bc,fl]) (Bm (by rw[zl];exact fl.symm)) ?_;obtain⟨h3,T,x3,Y,_⟩:=nP h2 (.cells Fr.zero.cells 167) (.cells f.cells 167);rw[T];have t:=x3.hb ag;have C:Ext h h3:=(x1.trans x2).trans x3;simp only[I,Ac];by_cases he:er=0
 ·subst he
  simp only[aD,aA,Aa,bD,Agr];obtain⟨hf,ah,_,_⟩:=Ayv w' (Aj:=Aj) (off:=S.u) (Ap:=Ap) (seq:=seq) (by rw[X]);rw[X]at hf;have hf:f=_:=hf;have ai:frB f=true:=by rw[hf];exact ah
  have m3:=a.Kk.ext fun i o g=>C.at hb g
  have al:=t _ _ m3.Kk;have ao:=t _ _ Y
  try simp only[Aw]
  rw[Ku al,m3.table]
  try simp only[Aa,Aw]
  rw[Ku ao,Db Y rfl,Ai fl]
  try simp only[Aa,Aw]
  refine Ok.bE (Arp (K:=K) W ai (D4 t) hK) (fun _ _ p=>p.2) ?_;rintro _ bf h4 ⟨rfl,_⟩ _ x4;have aq:=x4.hb t;have ul:(Bh (Vc f)).length=64:=by rw[Be,Atw W]
  try simp only[Aa,Aw]
  rw[Lf];refine Ok.st (Bh (Vc f)) (Ad _ _) rfl (by show Gk (Bh (Vc f))=64;rw[Bc,ul]) (Bm (by rw[bQ];exact ul.symm)) ?_;obtain⟨h5,T,x5,aa,_⟩:=nP h4 (.cells (List.replicate 64 (EV.int .u8 0)) 30) (.cells (Bh (Vc f)) 30);rw[T];have E:=x5.hb aq;have ab:Ext h h5:=(C.trans x4).trans x5;have M5:=M.ext hb ab;clear m3 m1 a;obtain⟨_,D,p,bl,ql,np,q,c,G,a⟩:=M5.s;have au:=E _ _ a.Kk.Kk;have aw:=E _ _ aa;simp only[Afb,Aa,Ac,I,aD,aA,Aw];rw[Ku au,a.Kk.Eb]
  try simp only[Aa,Aw]
  rw[Ku aw,Db aa rfl,Ai ul]
  try simp only[Aa,Aw]
  refine Ok.bC (S:=G) (Av5 (K:=K) A (by omega) (d:=dd) (by omega) (fun k hk=>Bar A (by omega) S.dr k hk) a.drv.lift (D4 E) Aj ul ⟨_,Bja W,rfl⟩) (fun _ _ p=>p.2.2.1) ?_;rintro _ h6 h7 s' ⟨rfl,d6,_,ax⟩ sm c7 _;have H:=sm.hb ax;obtain⟨J,k7⟩:=M5.drv E a (d6.same sm) c7;have L:Kf F h h7:=ab.Axz k7;have J:=J.less fun i (hi:F i)=>Or.inl hi
  generalize S.dr.append Aj (Bh (Vc f))=ap at J⊢;obtain⟨dr,off,er⟩:=ap;obtain⟨_,D,p,bl,ql,np,q,c,G,a⟩:=J.s;simp only[Aa,I,Ac];by_cases h0:er=0
  ·simp only[h0,aB,Aa,a.Kk.ou,I,Ac,gO]
   by_cases h1:off=S.u
   ·simp only[h1,aD,aA,Aa,Pd,Qb,bD]
    exact .ret ⟨rfl,J,L,H⟩
   ·simp only[h1,aN,aB,Aa,Pd,Qb,bM]
    exact .ret ⟨rfl,J,L,H⟩
  ·simp only[h0,aA,Aa,Pd,Qb,gN,bD]
   exact .ret ⟨rfl,J,L,H⟩
 ·simp only[he,aN,aB,Aa,bM]
  exact .ret ⟨rfl,(M.ext hb C).less fun i (hi:F i)=>Or.inl hi,C.kf,t⟩
noncomputable def Mi.both(S:Mi)(e:En)(Ap seq:Int):Mi × Int × Int:=
 if ¬(S.put e S.a S.b Ap seq).2=0 then((S.put e S.a S.b Ap seq).1,S.a,(S.put e S.a S.b Ap seq).2)else
 (((S.put e S.a S.b Ap seq).1.put e S.b S.a Ap seq).1,S.b,((S.put e S.a S.b Ap seq).1.put e S.b S.a Ap seq).2)
theorem Bp3(A:Bj disp)(hK:10000<K)(hd:17<=d)(M:Dd h m S F)(hb:HB h){e:En}(w:e.Wf)(Ap seq:Int):
 Ok (Ae TT disp K d false 148 [.ptr m 0,.agg e.cells,I Ap,I seq] h) fun v h'=>v=.tuple [I (S.both e Ap seq).2.1,I (S.both e Ap seq).2.2]/\Dd h' m (S.both e Ap seq).1 F/\Kf F h h'/\HB h':=by
 obtain⟨dd,rfl⟩:∃k,d=k+1:=⟨d-1,by omega⟩;rw[Aqd A (by omega)];have el:=En.Br w;simp only[Aku,Aa];obtain⟨T,J,u,g5,U⟩:=nW h (.cells e.cells 131);rw[J];have f:=u.hb hb;have E:=M.ext hb u;obtain⟨_,D,p,bl,ql,np,q,c,G,a⟩:=E.s;rw[a.Kk.oa]
 try simp only[Aa]
 rw[a.Kk.ob,Db g5 rfl,Ai el]
 try simp only[Aa]
 refine(Bi5 A hK (by omega) E f w S.a S.b Ap seq).An ?_;rintro _ h2 ⟨rfl,M2,H,o⟩;have t:Kf F h h2:=u.Axz H;have g5:=H.at f g5 (.inr ⟨aE _,by omega⟩);unfold Mi.both;simp only[I,Ac];by_cases h0:(S.put e S.a S.b Ap seq).2=0
 ·simp only[h0,aD,aA,Aa,bD,Adw]
  rw[Db g5 rfl,Ai el]
  try simp only[Aa]
  have M2:=M2.less fun i (B:F i)=>Or.inl B
  refine(Bi5 A hK (by omega) M2 o w S.b S.a Ap seq).An ?_;rintro _ W ⟨rfl,L,O,C⟩;exact .ret ⟨rfl,L,t.trans O,C⟩
 ·simp only[h0,aN,aB,Aa,bM]
  exact .ret ⟨rfl,M2.less fun i (B:F i)=>Or.inl B,t,o⟩
theorem Bkb(D:Nat)(g:Gm)(p bl n:Nat)(a b u f:Int):(Agd D g p bl n a b u).set 267 (I f)=Agd D g p bl n a b f:=by
 unfold Agd;have k:([EV.ptr D 0]++gL g++Bn).length=263:=by rw[aH,Wx];rfl
 rw[eV _ _ (by omega),k];rfl
noncomputable def Mi.Aws(S:Mi):Mi:={ S with u:=Dz .i64 (S.u+1) }
theorem Mi.Wf.Aws(w:S.Wf):S.Aws.Wf:={ toWp:=⟨w.sm,w.ps⟩,op:=w.op }
theorem A8c(M:Dd h m S F)(hb:HB h){k:Ab->R}(t:∀h',Dd h' m S.Aws F->Kf F h h'->HB h'->Ext h h'\/True->h'.next=h.next->(∀i,F i->h'.get i=h.get i)->Ok (k h') Q):
 Ok (Fm (.ptr m 267) h fun v=>Kl A6b (bin TT .add 3) v (.int .i64 1) fun w=>stE 1 (.ptr m 267) w h k) Q:=by
 obtain⟨lt,D,p,bl,ql,np,q,c,G,a⟩:=M.s;rw[a.Kk.ou];simp only[I,Ac];have ml:=A4p D S.g p bl (S.g.D*S.g.Z).toNat S.a S.b S.u;have lm:=hb _ _ a.Kk.Kk;refine Ok.st1 a.Kk.Kk rfl rfl (by omega) ?_;rw[show EV.int .i64 (Dz .i64 (S.u+1))=I (Dz .i64 (S.u+1))from rfl,Bkb];have c1:Av (fun i=>i=m) h (h.put m (.cells (Agd D S.g p bl (S.g.D*S.g.Z).toNat S.a S.b (Dz .i64 (S.u+1))) 111)):=(Av.refl (S:=fun i=>i=m) h).Ar (.inl rfl) lm _;have B:=a.A8r hb (Af _ _ _) c1;have o:∀i,F i->i≠m:=fun i f y=>by subst y;exact a.sub.2.1.2 f
 refine t _ ⟨⟨fun i f=>f.1,D,p,bl,ql,np,q,c,G,?_⟩,fun i f=>M.lt i f,M.wf.Aws⟩ (c1.mono fun i f y=>o i y f) (hb.put lm _) (.inr trivial) rfl (fun i f=>Ag _ (cV (o i f)));exact B
noncomputable def Mi.Qs(B:Mi × Int × Int):Mi:=if B.2.1=B.1.b then B.1.Aws else B.1
def Me.zero:Me:=⟨0,0,0,0,0,0⟩
noncomputable def Mi.Ye(e:En)(Ap seq:Int):Nat->Mi->Mi × Me × Int
 | 0,S=>(S,Me.zero,0)
 | n+1,S=>
  if ¬S.ready.2=0 then(S.ready.1,Me.zero,S.ready.2)else
  if(S.ready.1.both e Ap seq).2.2=0 then((S.ready.1.both e Ap seq).1.Aws,⟨1,(S.ready.1.both e Ap seq).1.a,(S.ready.1.both e Ap seq).1.b,(S.ready.1.both e Ap seq).1.u,seq,Ga e.bytes⟩,0)else
  if(S.ready.1.both e Ap seq).2.2=34 then((S.ready.1.both e Ap seq).1,Me.zero,34)else
  if((Mi.Qs (S.ready.1.both e Ap seq)).Cl (S.ready.1.both e Ap seq).2.1).2=34 then(((Mi.Qs (S.ready.1.both e Ap seq)).Cl (S.ready.1.both e Ap seq).2.1).1,Me.zero,34)else
  Ye e Ap seq n ((Mi.Qs (S.ready.1.both e Ap seq)).Cl (S.ready.1.both e Ap seq).2.1).1
noncomputable def Mi.place(S:Mi)(e:En)(Ap seq:Int):Mi × Me × Int:=
 if ¬(E9 e 0 0 Ap seq).2=0 then(S,Me.zero,(E9 e 0 0 Ap seq).2)else Mi.Ye e Ap seq 1000 S
noncomputable def A1q(bad:Nat->Int)(n:Nat):Nat:=((List.range n).filter fun i=>¬bad i=1).length
theorem Bpb(bad:Nat->Int)(n:Nat):A1q bad n<=n:=by
 unfold A1q;have:=eU (fun i=>decide (¬bad i=1)) (List.range n);simpa using this
theorem Bfx(bad:Nat->Int){z:Nat}(k:z<n)(hb:¬bad z=1):A1q (fun i=>if i=z then 1 else bad i) n<A1q bad n:=by
 unfold A1q;induction n with
 | zero=>omega
 | succ n a=>
  rw[dA,eT,eT,aH,aH];by_cases h:z=n
  ·subst h
   have e1:((List.range z).filter fun i=>decide (¬(if i=z then(1:Int)else bad i)=1))=(List.range z).filter fun i=>decide (¬bad i=1):=by
    refine List.filter_congr fun i f=>?_
    have:=dG.1 f;rw[aF (by omega)]
   have e2:([z].filter fun i=>decide (¬(if i=z then(1:Int)else bad i)=1)) = []:=by simp
   have e3:([z].filter fun i=>decide (¬bad i=1)) = [z]:=by simp[hb]
   rw[e1,e2,e3];simp
  ·have:=a (by omega)
   have e2:([n].filter fun i=>decide (¬(if i=z then(1:Int)else bad i)=1)) = [n].filter fun i=>decide (¬bad i=1):=by
    have:¬n=z:=fun y=>h y.symm
    rw[eP,eP];simp[this]
   rw[e2];omega
theorem Biz(S:Mi):S.ready.1.g=S.g/\S.ready.1.bad=S.bad:=by
 unfold Mi.ready;split
 ·exact⟨rfl,rfl⟩
 ·split
  ·exact⟨rfl,rfl⟩
  ·split<;>exact⟨rfl,rfl⟩
theorem Bpx(S:Mi)(e:En)(Aj Ba Ap seq:Int):(S.put e Aj Ba Ap seq).1.g=S.g/\(S.put e Aj Ba Ap seq).1.bad=S.bad/\(S.put e Aj Ba Ap seq).1.a=S.a/\(S.put e Aj Ba Ap seq).1.b=S.b/\(S.put e Aj Ba Ap seq).1.u=S.u/\(S.put e Aj Ba Ap seq).1.ps=S.ps:=by
 unfold Mi.put;split<;>exact⟨rfl,rfl,rfl,rfl,rfl,rfl⟩
theorem Buy(S:Mi)(e:En)(Ap seq:Int):(S.both e Ap seq).1.g=S.g/\(S.both e Ap seq).1.bad=S.bad/\(S.both e Ap seq).1.a=S.a/\(S.both e Ap seq).1.b=S.b/\(S.both e Ap seq).1.u=S.u/\(S.both e Ap seq).1.ps=S.ps /\
 ((S.both e Ap seq).2.1=S.a\/(S.both e Ap seq).2.1=S.b):=by
 unfold Mi.both;obtain⟨f,k,o,a4,a5,q⟩:=Bpx S e S.a S.b Ap seq;obtain⟨b1,b2,b3,b4,t,v⟩:=Bpx (S.put e S.a S.b Ap seq).1 e S.b S.a Ap seq;split
 ·exact⟨f,k,o,a4,a5,q,.inl rfl⟩
 ·exact⟨b1.trans f,b2.trans k,b3.trans o,b4.trans a4,t.trans a5,v.trans q,.inr rfl⟩
theorem Br7(B:Mi × Int × Int):(Mi.Qs B).g=B.1.g/\(Mi.Qs B).bad=B.1.bad/\(Mi.Qs B).a=B.1.a/\(Mi.Qs B).b=B.1.b:=by
 unfold Mi.Qs;split<;>exact⟨rfl,rfl,rfl,rfl⟩
theorem A9h(S:Mi)(z:Int):(S.Cl z).1.g=S.g:=by
 unfold Mi.Cl;split
 ·rfl
 ·split
  ·rfl
  ·split
   ·rfl
   ·exact(Ba5 _).1
theorem A3a(w:S.Wf){z:Int}(f:0<=Bu S.g z)(hb:¬S.bad z.toNat=1):A1q (S.Cl z).1.bad (S.g.D*S.g.Z).toNat<A1q S.bad (S.g.D*S.g.Z).toNat:=by
 have a:(S.Cl z).1.bad=fun i=>if i=z.toNat then 1 else S.bad i:=by
  unfold Mi.Cl;rw[aF (by omega),aF (by unfold Mi.F0;rw[aP hb,cS];simp)];split
  ·rfl
  ·exact(Ba5 _).2.2.2.2
 rw[a];refine Bfx S.bad ?_ hb;rcases Ko w.sm z with y|⟨_,_,_,k,o⟩<;>omega
theorem Bgd(w:S.Wf)(h:S.ready.2=0):(0<=Bu S.ready.1.g S.ready.1.a/\¬S.ready.1.bad S.ready.1.a.toNat=1)/\(0<=Bu S.ready.1.g S.ready.1.b/\¬S.ready.1.bad S.ready.1.b.toNat=1):=by
 rcases w.ready.op with⟨y,_⟩|y
 ·exfalso
  revert h y;unfold Mi.ready;split
  ·rename_i h0;intro _ y;exact h0.1 y
  ·split
   ·rename_i k;intro y _;exact k y
   ·cases hp:Aj8 S.ps S.g.D.toNat with
    | none=>intro y _;simp at y
    | some t=>
     obtain⟨x,y,ps'⟩:=t;obtain⟨a,b,_,_,_,_,_,_,_,_,o,_⟩:=Aoi w.ps hp;intro _ f;have f:x = -1:=f;have:=Lc w.sm (z:=x) (by rw[o.1];omega);omega
 ·exact y
theorem A6f:TT.size 47=some 6/\TT.agg 47=some true:=⟨by kernel_rfl,by kernel_rfl⟩
theorem Bfw(A:Bj disp)(hK:10000<K)(hd:19<=d){e:En}(w:e.Wf)(Ap seq:Int){W o:Nat}:∀(n f:Nat) (h:Ab) (S:Mi) (F:Nat->Prop),A1q S.bad (S.g.D*S.g.Z).toNat<n->n<=f->Dd h m S F->HB h->F W->F o->W≠o ->
 h.get W=some (.cells e.cells 131)->h.get o=some (.cells Me.zero.cells 47) ->
 Ok (He (Ae TT disp K d false) (Ae TT disp K d true) K f (.ptr m 0) (I Ap) (I seq) (.ptr W 0) (.ptr o 0) h) fun v h'=>v=.tuple [.agg (Mi.Ye e Ap seq n S).2.1.cells,I (Mi.Ye e Ap seq n S).2.2]/\Dd h' m (Mi.Ye e Ap seq n S).1 (fun i=>F i/\¬i=o)/\Kf (fun i=>F i/\¬i=o) h h'/\HB h':=by
 intro n;induction n with
 | zero=>intro f h S F hg;omega
 | succ n ih=>
  intro f h S F hg hf M hb f5 f8 ax g5 g8;obtain⟨f,rfl⟩:∃k,f=k+1:=⟨f-1,by omega⟩;have el:=En.Br w;have sub:∀i,(F i/\¬i=o)->F i:=fun i hi=>hi.1
  have fin:∀(me:Me) (er:Int) (E:Ab) (S5:Mi),Dd E m S5 F->Kf F h E->HB E->(S5,me,er)=Mi.Ye e Ap seq (n+1) S ->
   Ok (stE 6 (.ptr o 0) (.agg me.cells) E fun h=>Ji TT [.c (.ptr o 0) 47,.v (I er)] h) fun v h'=>v=.tuple [.agg (Mi.Ye e Ap seq (n+1) S).2.1.cells,I (Mi.Ye e Ap seq (n+1) S).2.2]/\Dd h' m (Mi.Ye e Ap seq (n+1) S).1 (fun i=>F i/\¬i=o)/\Kf (fun i=>F i/\¬i=o) h h'/\HB h':=by
   intro me er E S5 M5 k5 C he;have ah:=k5.at hb g8 f8;have l8:=C _ _ ah;refine Ok.st me.cells ah rfl rfl (Bm rfl) ?_;rw[Gg (Af _ _ _) A6f.1 A6f.2 rfl,<-he];have c8:Av (fun i=>i=o) E (E.put o (.cells me.cells 47)):=(Av.refl (S:=fun i=>i=o) E).Ar (.inl rfl) l8 _;exact .ret ⟨rfl,(M5.Ag7 c8 fun i hi _=>hi▸f8).less sub,(k5.less sub).trans (c8.mono fun i hi y=>y.2 hi),C.put l8 _⟩
  unfold Mi.Ye at fin⊢;simp only[He,dr];refine(Bkg A hK M hb (by omega)).An ?_;rintro _ h1 ⟨rfl,M1,k1,ai⟩;simp only[I,Ac];by_cases hr:S.ready.2=0
  ·rw[aF (show ¬¬S.ready.2=0 from fun y=>y hr)]at fin⊢
   have op:=Bgd M.wf hr;have al:=(Biz S);simp only[hr,aD,aA,Aa,Ac2];have az:=k1.at hb g5 f5;rw[Db az rfl,Ai el]
   try simp only[Aa]
   refine(Bp3 A hK (by omega) M1 ai w Ap seq).An ?_;rintro _ h2 ⟨rfl,M2,k2,t⟩;have H:Kf F h h2:=k1.trans k2;have J:=Buy S.ready.1 e Ap seq;generalize hB:S.ready.1.both e Ap seq=B at M2 fin J⊢;obtain⟨T,z,er⟩:=B;simp only at M2 fin J⊢;have b6:z≠z->False:=fun y=>y rfl
   simp only[Aa,I,Ac];by_cases h0:er=0
   ·rw[aG h0]at fin⊢
    simp only[h0,aB,Aa,Aw];obtain⟨a0,D,p,bl,ql,np,q,c,G,a⟩:=M2.s;have lm:=t _ _ a.Kk.Kk;have a1:=H.at hb g5 f5;rw[Ku lm,a.Kk.oa]
    try simp only[Aa,Aw]
    rw[Ku lm,a.Kk.ob]
    try simp only[Aa,Aw]
    rw[Ku lm,a.Kk.ou]
    try simp only[Aa,Aw]
    rw[Ku lm,a.Kk.table]
    try simp only[Aa,Aw]
    rw[show ∀k:EV->R,Uk 32 1 (.ptr W 6) none none none k=k (.slice W 6 32 32 false)from fun k=>rfl]
    try simp only[Aa,Aw]
    have bs:Bs h2.lift (.slice W 6 32 32 false) W 6 e.bytes:=by
     refine⟨32,false,_,e.cells,by rw[w.len],by rw[w.len];omega,by rw[Ci];exact a1,rfl,by rw[el,w.len];exact aE _,?_⟩;unfold En.cells;rw[w.len];show(Bh e.bytes).take 32=_;rw[bR (by rw[Be,w.len];omega)]
    refine Ok.bE (A9c (K:=K) hK bs (D4 t) w.u8 (by rw[w.len];omega)) (fun _ _ p=>p.2) ?_;rintro _ b7 U ⟨rfl,_⟩ _ x3;have L:=x3.hb t;have ca:=A80 w.u8;simp only[Nk,Aa];rw[show Dz .i64 (Int.ofNat (Ga e.bytes))=(Ga e.bytes:Int)from Cj (by show -9223372036854775808<=((Ga e.bytes:Nat):Int);omega) (by show((Ga e.bytes:Nat):Int)<=_;omega)];rw[Ay (l:=(⟨1,T.a,T.b,T.u,seq,Ga e.bytes⟩:Me).cells) rfl]
    try simp only[Aa,Aw]
    rw[Lf];refine Ok.st (⟨1,T.a,T.b,T.u,seq,Ga e.bytes⟩:Me).cells (Ad _ _) rfl rfl (Bm rfl) ?_;obtain⟨h4,e_,x4,a3,n4⟩:=nP U (.cells [EV.int .i64 0,.int .i64 0,.int .i64 0,.int .i64 0,.int .i64 0,.int .i64 0] 47) (.cells (⟨1,T.a,T.b,T.u,seq,Ga e.bytes⟩:Me).cells 47);rw[e_];have X:=x4.hb L;have ao:Ext h2 h4:=x3.trans x4;have M4:=M2.ext t ao;refine A8c M4 X ?_;intro E M5 k5 C _ n5 e5;have a6:Bg F h2 h4 U.next:=.inr ⟨x3.next,by omega⟩
    rw[Db (by rw[e5 _ a6];exact a3) rfl,Ai (n:=6) rfl]
    try simp only[Aa]
    refine fin _ _ E T.Aws (M5.less fun i (hi:F i)=>Or.inl hi) (H.trans (ao.Axz k5)) C rfl
   ·rw[aF h0]at fin⊢
    simp only[h0,aA,Aa,Ac];by_cases Y:er=34
    ·rw[aG Y]at fin⊢
     simp only[Y,aB,Aa];rw[Ay (l:=Me.zero.cells) rfl];exact fin _ _ h2 T M2 H t rfl
    ·rw[aF Y]at fin⊢
     simp only[Y,aA,Aa,Ab1];obtain⟨a0,D,p,bl,ql,np,q,c,G,a⟩:=M2.s;rw[a.Kk.ob];simp only[I,Ac];have hz:0<=Bu T.g z/\¬T.bad z.toNat=1:=by
      obtain⟨e1,e2,e3,e4,_,_,e5⟩:=J;rw[e1,e2];rcases e5 with e5|e5
      ·rw[e5];exact op.1
      ·rw[e5];exact op.2
     have go:∀(U:Ab),Dd U m (Mi.Qs (T,z,er)) F->Kf F h U->HB U ->
      Ok (Tt (Ae TT disp K d false) (Ae TT disp K d true) K (He (Ae TT disp K d false) (Ae TT disp K d true) K f) (.ptr m 0) (I Ap) (I seq) (.ptr W 0) (.ptr o 0) (I z) U) fun v h'=>
       v=.tuple [.agg (if((Mi.Qs (T,z,er)).Cl z).2=34 then(((Mi.Qs (T,z,er)).Cl z).1,Me.zero,(34:Int))else Mi.Ye e Ap seq n ((Mi.Qs (T,z,er)).Cl z).1).2.1.cells,I (if((Mi.Qs (T,z,er)).Cl z).2=34 then(((Mi.Qs (T,z,er)).Cl z).1,Me.zero,(34:Int))else Mi.Ye e Ap seq n ((Mi.Qs (T,z,er)).Cl z).1).2.2] /\
        Dd h' m (if((Mi.Qs (T,z,er)).Cl z).2=34 then(((Mi.Qs (T,z,er)).Cl z).1,Me.zero,(34:Int))else Mi.Ye e Ap seq n ((Mi.Qs (T,z,er)).Cl z).1).1 (fun i=>F i/\¬i=o)/\Kf (fun i=>F i/\¬i=o) h h'/\HB h':=by
      intro U M3 k3 L;obtain⟨u1,u2,u3,u4⟩:=Br7 (T,z,er);simp only at u1 u2 u3 u4;have ad:0<=Bu (Mi.Qs (T,z,er)).g z/\¬(Mi.Qs (T,z,er)).bad z.toNat=1:=by rw[u1,u2];exact hz
      have less:=A3a M3.wf ad.1 ad.2;have qg:=A9h (Mi.Qs (T,z,er)) z;simp only[Tt,dr];refine(Atx A hK M3 L (by omega) (Af4 M3.wf.sm ad.1)).An ?_;rintro _ h4 ⟨rfl,M4,k4,X⟩;have aa:Kf F h h4:=k3.trans k4;simp only[I,Ac];by_cases hq:((Mi.Qs (T,z,er)).Cl z).2=34
      ·rw[aG hq]at fin⊢
       simp only[hq,aB,Aa];rw[Ay (l:=Me.zero.cells) rfl];exact fin _ _ h4 _ M4 aa X rfl
      ·rw[aF hq]
       simp only[hq,aA,Aa];have bf:=aa.at hb g5 f5;have bj:=aa.at hb g8 f8;refine(ih f h4 _ F ?_ (by omega) M4 X f5 f8 ax bf bj).mono ?_
       ·rw[qg]
        have e1:(Mi.Qs (T,z,er)).g=S.g:=by rw[u1,J.1,al.1]
        have e2:(Mi.Qs (T,z,er)).bad=S.bad:=by rw[u2,J.2.1,al.2]
        rw[e1,e2]at less;rw[e1];omega
       ·rintro v E ⟨ev,M5,k5,C⟩
        exact⟨ev,M5,(aa.less sub).trans k5,C⟩
     by_cases O:z=T.b
     ·simp only[O,aB,Aa]
      refine A8c M2 t ?_;intro U M3 k3 L _ _ _;have:=go U (by unfold Mi.Qs;rw[aG O];exact M3) (H.trans k3) L;rw[O]at this;exact this
     ·simp only[O,aA,Aa]
      exact go h2 (by unfold Mi.Qs;rw[aF O];exact M2) H t
  ·rw[aG hr]at fin⊢
   simp only[hr,aN,aB,Aa];rw[Ay (l:=Me.zero.cells) rfl];exact fin _ _ h1 _ M1 k1 ai rfl
theorem A7o(A:Bj disp)(hK:10000<K)(hd:20<=d)(M:Dd h m S F)(hb:HB h){e:En}(w:e.Wf)(Ap seq:Int):
 Ok (Ae TT disp K d false 115 [.ptr m 0,.agg e.cells,I Ap,I seq] h) fun v h'=>v=.tuple [.agg (S.place e Ap seq).2.1.cells,I (S.place e Ap seq).2.2]/\Dd h' m (S.place e Ap seq).1 F/\Kf F h h'/\HB h':=by
 obtain⟨dd,rfl⟩:∃k,d=k+1:=⟨d-1,by omega⟩;rw[Ao8 A (by omega)];have el:=En.Br w;simp only[Ahz,Aa];rw[show(h.new (.cells e.cells 131)).next=h.next+1 from rfl];have J:Ext h ((h.new (.cells e.cells 131)).new (.cells Me.zero.cells 47)):=(Av.new _ _).Ds _;have g5:((h.new (.cells e.cells 131)).new (.cells Me.zero.cells 47)).get h.next=some (.cells e.cells 131):=by
  rw[Az _ (aL _)];exact Ad _ _
 have E:((h.new (.cells e.cells 131)).new (.cells Me.zero.cells 47)).get (h.next+1)=some (.cells Me.zero.cells 47):=Ad _ _;have n1:((h.new (.cells e.cells 131)).new (.cells Me.zero.cells 47)).next=h.next+2:=rfl
 rw[show(Ec.cells [EV.int .i64 0,.int .i64 0,.int .i64 0,.int .i64 0,.int .i64 0,.int .i64 0] 47)=.cells Me.zero.cells 47 from rfl];generalize (h.new (.cells e.cells 131)).new (.cells Me.zero.cells 47)=W at J g5 E n1⊢;have o:=J.hb hb;rw[Db g5 rfl,Ai el]
 try simp only[Aa]
 refine(Aji (K:=K) w o hK 0 0 Ap seq).An ?_;rintro _ h2 ⟨rfl,L⟩;have O:=L.hb o;have X:=A06 w 0 0 Ap seq;unfold Mi.place;generalize E9 e 0 0 Ap seq=fe at X⊢;obtain⟨f,er⟩:=fe;have fl:=Fr.Br X;have zl:=Fr.Br Fr.Ie;simp only[Aa,Axp];refine Ok.st f.cells (Ad _ _) rfl (by show Gk f.cells=49;rw[Bc,fl]) (Bm (by rw[zl];exact fl.symm)) ?_;obtain⟨q,e_,T,_,_⟩:=nP h2 (.cells Fr.zero.cells 167) (.cells f.cells 167);rw[e_];have t:=T.hb O;have u:Ext h q:=(J.trans L).trans T;have C:Ext W q:=L.trans T;have M3:=M.ext hb u;have g5:=C.at o g5;have E:=C.at o E;have ln:h.next+2<=q.next:=by have:=C.next;omega
 simp only[I,Ac];by_cases he:er=0
 ·subst he
  simp only[aD,aA,Aa,bD,Ach];have gl:=Bpb S.bad (S.g.D*S.g.Z).toNat;have:(S.g.D*S.g.Z).toNat<=512:=by
   have W:=M.wf.sm.d1;have h2:=M.wf.sm.z1;have q:=M.wf.sm.d0;have h4:=M.wf.sm.z0;obtain⟨m0,m1⟩:=Va (a:=S.g.D) (b:=S.g.Z) (A:=8) (B:=64) (by omega) (by omega) (by omega) (by omega);omega
  refine(Bfw A hK (by omega) w Ap seq 1000 K q S (Bg F h q) (by omega) (by omega) M3 t (.inr ⟨by omega,by omega⟩) (.inr ⟨by omega,by omega⟩) (by omega) g5 E).mono ?_;rintro v h4 ⟨ev,M4,k4,U⟩;refine⟨ev,M4.less fun i (H:F i)=>⟨.inl H,fun y=>by have:=M.lt i H;omega⟩,?_,U⟩;exact Av.then (S:=fun i=>¬F i) (Ext.to u) k4 fun i y hl z=>y ⟨.inl z,fun y=>by have:=M.lt i z;omega⟩
 ·simp only[he,aN,aB,Aa,bM]
  rw[Ay (l:=Me.zero.cells) rfl];refine Ok.st Me.zero.cells E rfl rfl (Bm rfl) ?_;rw[Gg (Af _ _ _) A6f.1 A6f.2 rfl];have Y:=t _ _ E;have x4:Ext h (q.put (h.next+1) (.cells Me.zero.cells 47)):=u.Ar (.inr (by omega)) Y _;exact .ret ⟨rfl,(M.ext hb x4).less fun i (H:F i)=>Or.inl H,x4.kf,t.put Y _⟩
end Go.Ev
