import Derived.Test.YtpkcfamminlmaaaGreatZa
import Derived.Test.YtpkcfamminlmaaaGreatXc
set_option linter.unusedVariables false
set_option linter.unusedSimpArgs false
set_option linter.unusedSectionVars false
namespace Go.Ev
open Go.Proofs
set_option maxRecDepth 100000
variable {K:Nat}{disp:Nat->Option FT}
theorem Afu {x y:List EV}(hx:x.length=64)(hy:y.length=64):(Qg x y).length=64:=by unfold Qg;rw[List.length_zipWith,hx,hy];rfl
theorem U8.at {x:List EV}(u:U8 x){i:Nat}(hi:i<x.length):∃ a:Nat,a<256/\x[i]=.int .u8 (Int.ofNat a):=by
 obtain⟨l,hl,rfl⟩:=u
 rw[Ep]at hi
 exact⟨l[i],hl _ (List.getElem_mem _),by simp[E2]⟩
theorem U8.xor {x y:List EV}(ux:U8 x)(uy:U8 y):U8 (Qg x y):=by
 obtain⟨a,ha,rfl⟩:=ux
 obtain⟨b,hb,rfl⟩:=uy
 refine⟨List.zipWith Nat.xor a b,fun c hc=>?_,?_⟩
 ·obtain⟨i,hi,rfl⟩:=List.getElem_of_mem hc
  rw[List.getElem_zipWith]
  rw[List.length_zipWith]at hi
  exact Nat.xor_lt_two_pow (n:=8) (ha _ (List.getElem_mem _)) (hb _ (List.getElem_mem _))
 ·unfold Qg E2
  rw[List.zipWith_map,List.map_zipWith]
  rfl
theorem A08 {h0:Aa}{b2 b3 b4:Nat}{x y:List EV}(hx:x.length=64)(hy:y.length=64)(ux:U8 x)(uy:U8 y)(l2:h0.next<=b2)(l3:b2<b3)(l4:b3<b4):∀ (m i:Nat) (h:Aa) (l:List EV),64-i<m->i<=64->HB h->Ext h0 h ->
 h.get b2=some (.cells l 103)->l.length=64->(∀ j,j<64->l[j]? = if j<i then (Qg x y)[j]? else x[j]?)->h.get b3=some (.cells y 103)->h.get b4=some (.cells Yf 103) ->
 Ok (Ds K m (.ptr b2 0) (.ptr b3 0) (.ptr b4 0) (.int .i64 (i:Int)) h) fun v h'=>v=.agg (Qg x y)/\Ext h0 h'/\HB h':=by
 intro m
 induction m with
 | zero=>intro i h l hm;omega
 | succ m ih=>
  intro i h l hm hi hb c g2 hl hj g3 g4
  have lt2:=hb _ _ g2
  have lt3:=hb _ _ g3
  have lt4:=hb _ _ g4
  simp only[Ds,Ad]
  by_cases hlt:i<64
  ·rw[decide_eq_true (show (i:Int)<64 by omega)]
   obtain⟨a,ha,ea⟩:=ux.at (i:=i) (by omega)
   obtain⟨b,hb',eb⟩:=uy.at (i:=i) (by omega)
   have e2:l[i]? = some (.int .u8 (Int.ofNat a)):=by rw[hj i hlt,if_neg (Nat.lt_irrefl _),List.getElem?_eq_getElem (by omega),ea]
   have e3:y[i]? = some (.int .u8 (Int.ofNat b)):=by rw[List.getElem?_eq_getElem (by omega),eb]
   have ex:(Qg x y)[i]? = some (Nk .u8 (a ^^^ b)):=by
    unfold Qg
    rw[List.getElem?_zipWith,List.getElem?_eq_getElem (show i<x.length by omega),ea,e3];rfl
   simp only[Ab,Tc,An6 hlt,Nat.zero_add,Nat.mul_one]
   rw[Aq lt2 (by kernel_rfl),Ce g2 rfl e2,Aq lt3 (by kernel_rfl),Ce g3 rfl e3,Azu ha hb',Rd (by kernel_rfl)]
   refine Ok.st1 g2 rfl rfl (by omega) ?_
   simp only[S8,Ad]
   rw[C6 (by omega) (by omega)]
   refine ih (i+1) _ (l.set i (Nk .u8 (a ^^^ b))) (by omega) (by omega) (hb.put lt2 _) (c.A8 (.inr l2) lt2 _) (Aj _ _ _) (by rw[List.length_set];exact hl) (fun j hj'=>?_) ?_ ?_
   ·rw[List.getElem?_set]
    by_cases hji:i=j
    ·subst hji;rw[if_pos rfl,if_pos (by omega),if_pos (by omega),ex]
    ·rw[if_neg hji,hj j hj']
     by_cases h1:j<i
     ·rw[if_pos h1,if_pos (by omega)]
     ·rw[if_neg h1,if_neg (by omega)]
   ·rw[Ar _ (by omega)];exact g3
   ·rw[Ar _ (by omega)];exact g4
  ·have:i=64:=by omega
   subst this
   have el:l=Qg x y:=by
    refine List.ext_getElem? fun j=>?_
    by_cases h1:j<64
    ·rw[hj j h1,if_pos h1]
    ·rw[List.getElem?_eq_none (by omega),List.getElem?_eq_none (by rw[Afu hx hy];omega)]
   subst el
   simp only[show ¬ ((64:Nat):Int)<64 by omega,decide_false,Ab,Oi]
   rw[F4 g2 rfl,Av hl]
   simp only[Ab]
   refine Ok.st (Qg x y) g4 rfl (by show Je (Qg x y)=64;rw[Ch,hl]) (Cd (by rw[Afy];exact hl.symm)) ?_
   rw[X4 (Aj _ _ _) Amy.1 Amy.2 hl]
   exact .ret ⟨rfl,c.A8 (.inr (by omega)) lt4 _,hb.put lt4 _⟩
theorem A0c {h:Aa}{x y:List EV}(hx:x.length=64)(hy:y.length=64)(ux:U8 x)(uy:U8 y)(hb:HB h)(hK:100<K):
 Ok (Ku K (.agg x) (.agg y) h) fun v h'=>v=.agg (Qg x y)/\Ext h h'/\HB h':=by
 simp only[Ku,Ab]
 have x1:Ext h (((h.new (.cells x 103)).new (.cells y 103)).new (.cells (List.replicate 64 (.int .u8 0)) 103)):=((A4.new _ _).Hy _).Hy _
 refine A08 (h0:=h) (x:=x) (y:=y) hx hy ux uy (b2:=h.next) (b3:=h.next+1) (b4:=h.next+2) (Nat.le_refl _) (by omega) (by omega) K 0 _ x (by omega) (by omega) (x1.hb hb) x1 ?_ hx (fun j _=>by rw[if_neg (Nat.not_lt_zero _)]) ?_ (Ae _ _)
 ·rw[Bm _ (by show h.next<h.next+1+1;omega),Bm _ (by show h.next<h.next+1;omega)];exact Ae _ _
 ·rw[Bm _ (by show h.next+1<h.next+1+1;omega)];exact Ae _ _
theorem Axl(A:Au disp){e:Nat}(he:2<=e){h:Aa}{b:Nat}{x p:List EV}(hg:h.get b=some (.cells p 103))(hx:x.length=64)(hp:p.length=64)(ux:U8 x)(up:U8 p)(hb:HB h)(hK:100<K):
 Ok (V2 (Af TT disp K e false) (Af TT disp K e true) (.func 239 [] [.ptr b 0]) [.agg x] h) fun v h'=>v=.agg (Qg x p)/\Ext h h'/\HB h':=by
 obtain⟨d,rfl⟩:∃ k,e=k+1:=⟨e-1,by omega⟩
 show Ok (Af TT disp K (d+1) false 239 [.agg x,.ptr b 0] h) _
 rw[Xz A (by omega)]
 simp only[S4,Ab]
 have x1:Ext h ((h.new (.cells x 103)).new (.cells (List.replicate 64 (.int .u8 0)) 103)):=(A4.new _ _).Hy _
 have g2:((h.new (.cells x 103)).new (.cells (List.replicate 64 (.int .u8 0)) 103)).get h.next=some (.cells x 103):=by
  rw[Bm _ (by show h.next<h.next+1;omega)];exact Ae _ _
 have g3:((h.new (.cells x 103)).new (.cells (List.replicate 64 (.int .u8 0)) 103)).get (h.next+1)=some (.cells Yf 103):=Ae _ _
 rw[show (h.new (.cells x 103)).next=h.next+1 from rfl]
 generalize (h.new (.cells x 103)).new (.cells (List.replicate 64 (.int .u8 0)) 103)=h1 at x1 g2 g3 ⊢
 have hb1:=x1.hb hb
 have gb:=x1.at hb hg
 rw[F4 g2 rfl,Av hx]
 simp only[Ab]
 rw[F4 gb rfl,Av hp]
 simp only[Ab]
 refine(A0c (K:=K) hx hp ux up hb1 hK).Al ?_
 rintro _ h2 ⟨rfl,x2,hb2⟩
 have g3:=x2.at hb1 g3
 have hl:=Afu hx hp
 refine Ok.st (Qg x p) g3 rfl (by show Je (Qg x p)=64;rw[Ch,hl]) (Cd (by rw[Afy];exact hl.symm)) ?_
 rw[X4 (Aj _ _ _) Amy.1 Amy.2 hl]
 exact .ret ⟨rfl,(x1.trans x2).A8 (.inr (by omega)) (hb2 _ _ g3) _,hb2.put (hb2 _ _ g3) _⟩
end Go.Ev

namespace Go.Ev
open Go.Proofs
set_option maxRecDepth 100000
variable {K:Nat}{disp:Nat->Option FT}
theorem Aez:∀ (l vs:List EV),vs.length<=l.length->I6 l vs=some (vs++l.drop vs.length)
 | l,[],_=>by cases l <;> rfl
 | [],_::_,h=>by simp at h
 | a::l,v::vs,h=>by
  show (match I6 l vs with|some x=>some (v::x)|none=>none)=_
  rw[Aez l vs (by simpa using h)];rfl
theorem Afp:∀ (l:List EV) (off:Nat) (vs:List EV),off+vs.length<=l.length->Eu l off vs=some (l.take off++vs++l.drop (off+vs.length))
 | [],off,vs,h=>by
  have h0:off=0/\vs = []:=by simp at h;exact⟨h.1,h.2⟩
  obtain⟨rfl,rfl⟩:=h0;rfl
 | a::l,0,vs,h=>by
  show I6 (a::l) vs=_
  rw[Aez _ _ (by omega)];simp
 | a::l,off+1,vs,h=>by
  show (match Eu l off vs with|some x=>some (a::x)|none=>none)=_
  rw[Afp l off vs (by simp at h;omega)]
  simp only[List.take_succ_cons,List.cons_append]
  rw[show off+1+vs.length=(off+vs.length)+1 by omega,List.drop_succ_cons]
theorem Aem {l vs:List EV}{off:Nat}(h:off+vs.length<=l.length):L5 l off vs=some (l.take off++vs++l.drop (off+vs.length)):=by rw[Si,Afp _ _ _ h]
theorem Pe {n:Nat}:∀ (l:List (List EV)),(∀ x ∈ l,x.length=n)->l.flatten.length=l.length*n
 | [],_=>by simp
 | a::l,hw=>by
  rw[List.flatten_cons,List.length_append,Pe l fun x hx=>hw x (List.mem_cons_of_mem _ hx),hw a (List.mem_cons_self ..),List.length_cons,Nat.add_mul];omega
theorem Abx {n:Nat}{l:List (List EV)}(hw:∀ x ∈ l,x.length=n){j:Nat}(hj:j<l.length):l.flatten=(l.take j).flatten++l[j]++(l.drop (j+1)).flatten/\(l.take j).flatten.length=j*n/\l[j].length=n:=by
 refine⟨?_,?_,hw _ (List.getElem_mem _)⟩
 ·have:l=l.take j++l[j]::l.drop (j+1):=by rw[<-List.drop_eq_getElem_cons hj,List.take_append_drop]
  conv=>lhs;rw[this]
  rw[List.flatten_append,List.flatten_cons,List.append_assoc]
 ·rw[Pe (n:=n) _ fun x hx=>hw x (List.mem_of_mem_take hx),List.length_take,Nat.min_eq_left (by omega)]
theorem Amx {n:Nat}{l:List (List EV)}(hw:∀ x ∈ l,x.length=n){j:Nat}(hj:j<l.length):Oh l.flatten (j*n) n=some l[j]:=by
 obtain⟨e,h1,h2⟩:=Abx hw hj
 rw[e,Im (by rw[List.length_append,List.length_append,h1,h2];omega),<-h1,List.append_assoc,List.drop_left,<-h2,List.take_left]
theorem Awt {n:Nat}{l:List (List EV)}(hw:∀ x ∈ l,x.length=n){j:Nat}(hj:j<l.length){v:List EV}(hv:v.length=n):L5 l.flatten (j*n) v=some (l.set j v).flatten:=by
 obtain⟨e,h1,h2⟩:=Abx hw hj
 have e2:(l.set j v).flatten=(l.take j).flatten++v++(l.drop (j+1)).flatten:=by
  rw[List.set_eq_take_append_cons_drop,if_pos hj,List.flatten_append,List.flatten_cons,List.append_assoc]
 have hl:l.flatten.length=j*n+n+(l.drop (j+1)).flatten.length:=by rw[e,List.length_append,List.length_append,h1,h2]
 have t1:l.flatten.take (j*n)=(l.take j).flatten:=by rw[e,List.append_assoc,<-h1,List.take_left]
 have t2:l.flatten.drop (j*n+n)=(l.drop (j+1)).flatten:=by
  rw[show j*n+n=((l.take j).flatten++l[j]).length by rw[List.length_append,h1,h2],e,List.drop_left]
 rw[Aem (by rw[hl,hv];omega),hv,t1,t2,e2]
def Zn.change(Z:Zn)(off:Int)(p:List EV):Zn:=if 0<=off/\off<Z.l.length then { Z with l:=Z.l.set off.toNat (Qg (((Z.l[off.toNat]?).getD Yf)) p) } else Z
theorem Zn.Wf.change {Z:Zn}{size:Nat}(w:Z.Wf size)(off:Int){p:List EV}(hp:U8 p):(Z.change off p).Wf size:=by
 unfold Zn.change
 split
 ·refine⟨fun x hx=>?_,w.st,by simp only[List.length_set];exact w.safe,by simp only[List.length_set];exact w.len,by simp only[List.length_set];exact w.room⟩
  rcases List.mem_or_eq_of_mem_set hx with hx|hx
  ·exact w.u8 x hx
  ·rw[hx]
   refine U8.xor ?_ hp
   cases hg:Z.l[off.toNat]? with
   | none=>exact U8.zs
   | some y=>exact w.u8 _ (List.mem_of_getElem? hg)
 ·exact w
theorem Akd(A:Au disp){e:Nat}(he:2<=e){h:Aa}{z q size:Nat}{Z:Zn}(zz:Fk h z q size Z)(w:Z.Wf size)(hs:size<=64)(hb:HB h)(off:Int){b:Nat}{p:List EV}(hg:h.get b=some (.cells p 103))(hp:p.length=64)(up:U8 p)(hK:100<K):
 Ok (Hl (Af TT disp K e false) (Af TT disp K e true) K (.ptr z 0) (I off) (.func 239 [] [.ptr b 0]) h) fun v h'=>v=I (if 0<=off/\off<Z.l.length then 0 else 31)/\Fk h' z q size (Z.change off p)/\A4 (fun j=>Z.l ≠ []/\j=q) h h'/\HB h':=by
 obtain⟨s,g,r⟩:=zz.A2
 have lz:=hb _ _ g
 have no:¬ (0<=off/\off<Z.l.length)->Ok (some (I 31,h)) fun v h'=>v=I (if 0<=off/\off<Z.l.length then 0 else 31)/\Fk h' z q size (Z.change off p)/\A4 (fun j=>Z.l ≠ []/\j=q) h h'/\HB h':=fun hn=>by
  unfold Zn.change
  rw[if_neg hn,if_neg hn]
  exact .ret ⟨rfl,zz,A4.refl _,hb⟩
 simp only[Hl,I,Ad]
 by_cases h0:off<0
 ·rw[decide_eq_true h0]
  simp only[Ab,Ad,Cp]
  exact no fun y=>by omega
 ·rw[decide_eq_false h0]
  simp only[Ab,Ad,B2 g rfl,r.Ho]
  by_cases h1:(Z.l.length:Int)<=off
  ·rw[decide_eq_true h1]
   simp only[Ab,Cp]
   exact no fun y=>by omega
  ·rw[decide_eq_false h1]
   obtain⟨j,rfl⟩:∃ j:Nat,off=j:=⟨off.toNat,by omega⟩
   have hj:j<Z.l.length:=by omega
   have rb:=r.block (by omega)
   have lq:=hb _ _ rb
   have hyes:(0:Int)<=(j:Int)/\(j:Int)<Z.l.length:=by omega
   unfold Zn.change
   rw[if_pos hyes,if_pos hyes,Int.toNat_natCast,List.getElem?_eq_getElem hj,Option.getD_some]
   obtain⟨_,hj64⟩:=(Abx zz.wf hj).2
   simp only[Ab,Cp,Js,Bo]
   rw[Aq lz (by kernel_rfl),B2 g rfl]
   simp only[Ab,Bo]
   rw[Aq lz (by kernel_rfl),B2 g rfl]
   simp only[Ab,Bo,r.ix hj]
   rw[Aq lq (by kernel_rfl),Kg rb rfl (Amx zz.wf hj)]
   simp only[Bo]
   refine Ok.Cs (by kernel_rfl) (by kernel_rfl) (Axl (K:=K) A he (h:=h.lift) (by rw[Dg];exact hg) hj64 hp (w.u8 _ (List.getElem_mem _)) up (Hu hb) hK) (fun _ _ p=>p.2.1) ?_
   rintro _ h1 h2 ⟨rfl,_,hb1⟩ sm x2
   have hb2:=x2.hb hb
   have rb2:=x2.at hb rb
   have hl:=Afu hj64 hp
   rw[Rd (by kernel_rfl),A3k (v:=.agg (Qg Z.l[j] p)) rb2 rfl (by show Je (Qg Z.l[j] p)=64;rw[Ch,hl]) (Awt zz.wf hj hl)]
   have lq2:=hb2 _ _ rb2
   refine .ret ⟨rfl,⟨⟨s,?_,?_⟩,fun x hx=>?_⟩,(Ext.to x2).A8 (.inl ⟨fun y=>by rw[y]at hj;simp at hj,rfl⟩) lq2 _,hb2.put lq2 _⟩
   ·rw[Ar _ (Bh rb g (by simp))];exact x2.at hb g
   ·refine .inr ⟨by rw[List.length_set];omega,by rw[List.length_set];exact r.slice (by omega),Aj _ _ _,?_⟩
    rw[Pe (n:=64),List.length_set]
    intro x hx
    rcases List.mem_or_eq_of_mem_set hx with hx|hx
    ·exact zz.wf x hx
    ·rw[hx];exact hl
   ·rcases List.mem_or_eq_of_mem_set hx with hx|hx
    ·exact zz.wf x hx
    ·rw[hx];exact hl
theorem Apn(A:Au disp){d:Nat}(hd:4<=d){h:Aa}{V:Nat}{D:Dv}{F:Nat->Prop}(s:Hb h V D F)(hb:HB h)(hK:100<K)(z off:Int){p:List EV}(hp:p.length=64)(up:U8 p):
 Ok (Af TT disp K d false 225 [.ptr V 0,I z,I off,.agg p] h) fun v h'=>(∃ n:Int,v=I n/\(n=0 ↔ D.has z=true/\0<=off/\off<(D.zs z.toNat).l.length))/\Hb h' V (D.Am7 z off p) (Bc F h h')/\A4 F h h'/\HB h':=by
 obtain⟨e,rfl⟩:∃ k,d=k+1:=⟨d-1,by omega⟩
 rw[Aaa A (by omega)]
 simp only[Vw,Ab]
 have x1:Ext h (h.new (.cells p 103)):=A4.new _ _
 have g5:(h.new (.cells p 103)).get h.next=some (.cells p 103):=Ae _ _
 have hb1:HB (h.new (.cells p 103)):=hb.new _
 have s1:=s.ext x1
 generalize h.new (.cells p 103)=h1 at x1 g5 hb1 s1 ⊢
 rw[Adt s1]
 unfold Dv.Am7
 cases hh:D.has z with
 | false=>
  simp only[Ab,Bool.false_eq_true,false_and,if_false]
  exact .ret ⟨⟨13,rfl,by simp⟩,s1.grow s.lt x1.next,Ext.to x1,hb1⟩
 | true=>
  have hz:=of_decide_eq_true hh
  obtain⟨j,rfl⟩:∃ j:Nat,z=j:=⟨z.toNat,by omega⟩
  have hj:j<D.n:=by omega
  obtain⟨w,wl,zl,zp,q,a,b⟩:=s1
  have w':=w.zs j hj
  simp only[Ab,Rn,a.list,a.A28 hj,Int.toNat_natCast,true_and]
  obtain⟨f,rfl⟩:∃ k,e=k+1:=⟨e-1,by omega⟩
  rw[Ph A (by omega)]
  refine(Akd (K:=K) (e:=f) A (by omega) (a.A2 j hj) w' w.size hb1 off g5 hp up hK).Al ?_
  rintro _ h2 ⟨rfl,z2,c2,hb2⟩
  obtain⟨d3,c23⟩:=Hb.A2 w a b wl hb1 hj (w'.change off up) z2 (c2.mono fun _=>.inr) hb2 (fun y=>.inr ⟨rfl,fun e=>y (by unfold Zn.change;split <;> simp[e])⟩)
  refine .ret ⟨⟨_,rfl,by split <;> simp_all⟩,?_,(Ext.to x1).trans c23,hb2⟩
  have d4:Hb h2 V (D.set j ((D.zs j).change off p)) (Bc F h h2):=d3.mono (fun i hi=>by
   rcases hi with y|y
   ·exact .inl y
   ·exact .inr ⟨Nat.le_trans x1.next y.1,y.2⟩) (Bc.lt s.lt (Nat.le_trans x1.next c23.next))
  unfold Zn.change at d4
  split
  ·rename_i hc
   rw[if_pos hc]at d4;exact d4
  ·rename_i hc
   rw[if_neg hc]at d4
   have e:D.set j (D.zs j)=D:=by
    unfold Dv.set
    have:Zi D.zs j (D.zs j)=D.zs:=by funext i;unfold Zi;split <;> simp_all
    rw[this]
   rw[e]at d4;exact d4
end Go.Ev

namespace Go.Ev
open Go.Proofs
set_option maxRecDepth 100000
variable {K:Nat}{disp:Nat->Option FT}
theorem F6.len {e:F6}(w:e.Wf):e.cells.length=68:=by unfold F6.cells;rw[List.length_append,w.len];rfl
theorem F6.A0o {e:F6}(w:e.Wf):Oh e.cells 4 64=some e.pat:=by
 rw[Im (by rw[F6.len w];omega)]
 show some ((e.pat).take 64)=_
 rw[List.take_of_length_le (by rw[w.len];omega)]
theorem F6.one(e:F6):e.cells[0]? = some (I e.Rp)/\e.cells[1]? = some (I e.kind)/\e.cells[2]? = some (I e.A2)/\e.cells[3]? = some (I e.off):=⟨rfl,rfl,rfl,rfl⟩
theorem Ek.call {h h3 h4:Aa}{D V M qc qh:Nat}{cs hs:EV}{ms:List (EV × EV)}{S:N7}{F G:Nat->Prop}{dv:Dv}(s:Ek h D S G)(a:Vg h D V M qc qh cs hs ms S F G)(hb:HB h)(d3:Hb h3 V dv (Bc F h.lift h3))(sm:Aqe h3 h4)(c4:A4 F h h4):
 Ek h4 D { S with dv:=dv } (Bc G h h4)/\A4 G h h4/\Vg h4 D V M qc qh cs hs ms { S with dv:=dv } (Bc F h h4) (Bc G h h4):=by
 have d4:Hb h4 V dv (Bc F h h4):=by
  have:=d3.frame (h':=h4) (by rw[sm.next];exact Nat.le_refl _) fun j _=>sm.get j
  refine this.mono (fun j hj=>?_) (Bc.lt a.dev.lt c4.next)
  rcases hj with y|y
  ·exact .inl y
  ·exact .inr ⟨y.1,by rw[sm.next];exact y.2⟩
 have:=s.put a hb d4 c4
 exact⟨this.1,this.2,a.put hb d4 c4⟩
theorem Aon(A:Au disp)(hK:1000<K){d:Nat}(hd:6<=d){h:Aa}{D:Nat}{S:N7}{G:Nat->Prop}(s:Ek h D S G)(hb:HB h){e:F6}(w:e.Wf):
 Ok (Af TT disp K d false 205 [.ptr D 0,.agg e.cells] h) fun v h'=>Ek h' D { S with dv:=S.dv.Am7 e.A2 e.off e.pat } (Bc G h h')/\A4 G h h'/\HB h':=by
 obtain⟨dd,rfl⟩:∃ k,d=k+1:=⟨d-1,by omega⟩
 rw[Ab8 A (by omega)]
 simp only[Xh,Ab]
 have x1:Ext h (h.new (.cells e.cells 105)):=A4.new _ _
 have g3:(h.new (.cells e.cells 105)).get h.next=some (.cells e.cells 105):=Ae _ _
 have hb1:HB (h.new (.cells e.cells 105)):=hb.new _
 have s1:=s.ext x1
 have n1:(h.new (.cells e.cells 105)).next=h.next+1:=rfl
 generalize h.new (.cells e.cells 105)=h1 at x1 g3 hb1 s1 n1 ⊢
 have nx:¬ G h.next:=fun y=>Nat.lt_irrefl _ (s.lt _ y)
 obtain⟨V,M,qc,qh,cs,hs,ms,F,a⟩:=s1.Rp
 have lD:=hb1 _ _ a.Ct
 have l3:=hb1 _ _ g3
 obtain⟨_,_,e2,e3⟩:=e.one
 rw[Aq lD (by kernel_rfl),B2 a.Ct rfl]
 try simp only[Ab,Bo]
 rw[Aq l3 (by kernel_rfl),Ce g3 rfl e2]
 try simp only[Ab,Bo]
 rw[Aq l3 (by kernel_rfl),Ce g3 rfl e3]
 try simp only[Ab,Bo]
 rw[Aq l3 (by kernel_rfl),Kg g3 rfl (F6.A0o w)]
 try simp only[Ab,Bo]
 refine Ok.Amo (S:=F) (by kernel_rfl) (by kernel_rfl) (fun _=>by kernel_rfl) (Apn (K:=K) A (by omega) a.dev.lift (Hu hb1) (by omega) e.A2 e.off w.len w.u8) (fun _ _ p=>p.2.2.1) ?_
 rintro _ h3 h4 s' ⟨⟨n,rfl,_⟩,d3,_,hb3⟩ sm c4 _
 obtain⟨s4,c14,a4⟩:=s1.call a hb1 d3 sm c4
 have hb4:=sm.hb hb3
 have g3:=c14.at hb1 g3 nx
 have fin:∀ (h5:Aa) (G5:Nat->Prop),Ek h5 D { S with dv:=S.dv.Am7 e.A2 e.off e.pat } G5->(∀ i,G5 i->Bc G h h5 i)->A4 (Bc G h1 h4) h4 h5->HB h5->Ok (some (.tuple [],h5)) fun v h'=>Ek h' D { S with dv:=S.dv.Am7 e.A2 e.off e.pat } (Bc G h h')/\A4 G h h'/\HB h':=fun h5 G5 s5 g5 c5 hb5=>by
  have cc:A4 G h h5:=((Ext.to x1).trans c14).then c5 fun j hj hl=>by
   rcases hj with y|y
   ·exact y
   ·omega
  exact .ret ⟨s5.mono g5 (Bc.lt s.lt cc.next),cc,hb5⟩
 have gr:∀ h5:Aa,h4.next<=h5.next->∀ i,Bc G h1 h4 i->Bc G h h5 i:=fun h5 l i hi=>by
  rcases hi with y|y
  ·exact .inl y
  ·exact .inr ⟨by omega,by omega⟩
 simp only[Ad,I]
 by_cases hn:n=0
 ·subst hn
  simp only[not_true_eq_false,decide_false,Ab,Th]
  rw[Ce g3 rfl e2]
  try simp only[Ab]
  rw[Ce g3 rfl e3]
  rw[Cu (l:=[I e.A2,I e.off]) rfl]
  try simp only[Ab]
  have x5:Ext h4 (h4.new (.cells [I 0,I 0] 243)):=A4.new _ _
  have g4':(h4.new (.cells [I 0,I 0] 243)).get h4.next=some (.cells [I 0,I 0] 243):=Ae _ _
  refine Ok.st [I e.A2,I e.off] (o:=0) (l:=[I 0,I 0]) (Ae _ _) rfl rfl rfl ?_
  have x5:Ext h4 ((h4.new (.cells [I 0,I 0] 243)).put h4.next (.cells [I e.A2,I e.off] 243)):=(A4.new h4 _:Ext _ _).A8 (.inr (Nat.le_refl _)) (Nat.lt_succ_self _) _
  have g4:((h4.new (.cells [I 0,I 0] 243)).put h4.next (.cells [I e.A2,I e.off] 243)).get h4.next=some (.cells [I e.A2,I e.off] 243):=Aj _ _ _
  have n5:((h4.new (.cells [I 0,I 0] 243)).put h4.next (.cells [I e.A2,I e.off] 243)).next=h4.next+1:=rfl
  simp only[I]at x5 g4 n5 ⊢
  generalize (h4.new (.cells [EV.int .i64 0,.int .i64 0] 243)).put h4.next (.cells [.int .i64 e.A2,.int .i64 e.off] 243)=h5 at x5 g4 n5 ⊢
  have hb5:=x5.hb hb4
  have s5:=s4.ext x5
  have g3:=x5.at hb4 g3
  have a5:=a4.frame x5.next fun i hi=>x5.get i (s4.lt i hi) id
  have lD5:=hb5 _ _ a5.Ct
  have l45:=hb5 _ _ g4
  have l35:=hb5 _ _ g3
  rw[Aq lD5 (by kernel_rfl),B2 a5.Ct rfl]
  try simp only[Ab,Bo]
  rw[Aq l45 (by kernel_rfl),Kg g4 rfl (Av (n:=2) rfl)]
  try simp only[Ab,Bo]
  obtain⟨p,k,el,up,lp⟩:=Awp (h:=h5.lift) (by rw[Dg];exact a5.map) a5.marks e.A2 e.off
  simp only[kp,I]at el
  rw[Ra (by kernel_rfl) (by kernel_rfl) el]
  try simp only[Ab,Bo]
  have x6:Ext h5 ((h5.new (.cells (List.replicate 64 (EV.int .u8 0)++[EV.int .i64 0]) 320)).put h5.next (.cells (p++[I k]) 320)):=(A4.new h5 _:Ext _ _).A8 (.inr (Nat.le_refl _)) (Nat.lt_succ_self _) _
  have g6:((h5.new (.cells (List.replicate 64 (EV.int .u8 0)++[EV.int .i64 0]) 320)).put h5.next (.cells (p++[I k]) 320)).get h5.next=some (.cells (p++[I k]) 320):=Aj _ _ _
  rw[Rd (by kernel_rfl)]
  refine Ok.st (p++[I k]) (Ae _ _) rfl (by show Je (p++[I k])=65;rw[Ch,List.length_append,lp];rfl) (Cd (by rw[List.length_append,List.length_replicate];show _=(p++[I k]).length;rw[List.length_append,lp];rfl)) ?_
  generalize (h5.new (.cells (List.replicate 64 (EV.int .u8 0)++[EV.int .i64 0]) 320)).put h5.next (.cells (p++[I k]) 320)=h6 at x6 g6 ⊢
  have hb6:=x6.hb hb5
  have s6:=s5.ext x6
  have g3:=x6.at hb5 g3
  have g4:=x6.at hb5 g4
  have a6:=a5.frame x6.next fun i hi=>x6.get i (s5.lt i hi) id
  have lD6:=hb6 _ _ a6.Ct
  have l46:=hb6 _ _ g4
  have l36:=hb6 _ _ g3
  have l66:=hb6 _ _ g6
  try simp only[Ab,Bo]
  rw[Aq lD6 (by kernel_rfl),B2 a6.Ct rfl]
  try simp only[Ab,Bo]
  rw[Aq l46 (by kernel_rfl),Kg g4 rfl (Av (n:=2) rfl)]
  try simp only[Ab,Bo]
  rw[Aq l66 (by kernel_rfl),Kg g6 rfl (l':=p) (by rw[Im (by rw[List.length_append,lp];show 0+64<=64+1;omega),List.drop_zero,<-lp,List.take_left])]
  try simp only[Ab,Bo]
  rw[Aq l36 (by kernel_rfl),Kg g3 rfl (F6.A0o w)]
  try simp only[Ab,Bo]
  refine Ok.Cs (by kernel_rfl) (by kernel_rfl) (A0c (K:=K) lp w.len up w.u8 (Hu hb6) (by omega)) (fun _ _ p=>p.2.1) ?_
  rintro _ h7' h7 ⟨rfl,_,_⟩ sm7 x7
  have hb7:=x7.hb hb6
  have s7:=s6.ext x7
  have a7:=a6.frame x7.next fun i hi=>x7.get i (s6.lt i hi) id
  have g6:=x7.at hb6 g6
  try simp only[Ab,Bo]
  rw[Aq l66 (by kernel_rfl),Ce g6 rfl (v:=I k) (by rw[List.getElem?_append_right (by omega),lp];rfl)]
  simp only[Ab,Bo,I,Ad]
  have xl:=Afu lp w.len
  rw[Cu (l:=Qg p e.pat++[I (Cv .i64 (k+1))]) (by
   show Uw (Gk [(0,64),(64,1)]) [(0,.agg (Qg p e.pat)),(1,.int .i64 (Cv .i64 (k+1)))] (List.replicate 64 (.int .u8 0)++[.int .i64 0])=_
   have e1:L5 (List.replicate 64 (EV.int .u8 0)++[EV.int .i64 0]) 0 (Qg p e.pat)=some (Qg p e.pat++[EV.int .i64 0]):=by
    rw[Aem (by rw[List.length_append,xl,List.length_replicate];show 0+64<=64+1;omega),xl];rfl
   have e2:L5 (Qg p e.pat++[EV.int .i64 0]) 64 [EV.int .i64 (Cv .i64 (k+1))]=some (Qg p e.pat++[I (Cv .i64 (k+1))]):=by
    rw[Aem (by rw[List.length_append,xl];show 64+1<=64+1;omega),<-xl,List.take_left,List.drop_of_length_le (by rw[List.length_append];exact Nat.le_refl _),List.append_nil]
   show Ao (Nat.beq (Je (Qg p e.pat)) 64) (oB (fun z=>Uw (Gk [(0,64),(64,1)]) [(1,.int .i64 (Cv .i64 (k+1)))] z) (L5 (List.replicate 64 (EV.int .u8 0)++[EV.int .i64 0]) 0 (Qg p e.pat))) none=_
   rw[Ch,xl,Nat.beq_refl,Ai,e1]
   show oB (fun z=>some z) (L5 (Qg p e.pat++[EV.int .i64 0]) 64 [EV.int .i64 (Cv .i64 (k+1))])=_
   rw[e2];rfl)]
  obtain⟨ms',eu,hm'⟩:=Aow (h:=h7.lift) (M:=M) (ms:=ms) (by rw[Dg];exact a7.map) a7.marks e.A2 e.off (p:=Qg p e.pat) (n:=Cv .i64 (k+1)) (up.xor w.u8) xl
  simp only[kp,I]at eu
  have lM:=hb7 _ _ a7.map
  refine Ok.Amo (S:=fun i=>i=M) (by kernel_rfl) (by kernel_rfl) (fun _=>by kernel_rfl) (P:=fun v h'=>v=.tuple []/\h'=h7.lift.put M (.map ms')) ⟨_,_,eu,rfl,rfl⟩ (fun _ _ p=>by rw[p.2];exact(A4.refl (S:=fun i=>i=M) _).A8 (.inl rfl) (h:=h7.lift) lM _) ?_
  rintro _ _ h9 s9' ⟨rfl,rfl⟩ sm9 c9 _
  obtain⟨s8,c8,hb8⟩:=s7.A3q a7 hb7 hm'
  have e9:∀ i,h9.get i=(h7.put M (.map ms')).get i:=fun i=>by
   rw[sm9.get,Aa.get_put,Aa.get_put,Dg]
  have n9:h9.next=h7.next:=sm9.next
  have s9:=s8.frame (h':=h9) (by rw[n9];exact Nat.le_refl _) fun i _=>e9 i
  refine fin h9 _ s9 (gr h9 (by have:=x5.next;have:=x6.next;have:=x7.next;omega)) ?_ (c9.hb hb7)
  refine((Ext.to x5).trans ((Ext.to x6).trans (Ext.to x7))).then c9 fun i hi _=>?_
  subst hi
  exact a4.sub.2.2.1
 ·simp only[hn,not_false_eq_true,decide_true,Ab]
  exact fin h4 _ s4 (gr h4 (Nat.le_refl _)) (A4.refl _) hb4
end Go.Ev

namespace Go.Ev
open Go.Proofs
set_option maxRecDepth 100000
variable {K:Nat}{disp:Nat->Option FT}
theorem Vg.own {h h':Aa}{D V M qc qh qc' qh':Nat}{cs hs cs' hs':EV}{ms:List (EV × EV)}{S:N7}{F G:Nat->Prop}(a:Vg h D V M qc qh cs hs ms S F G)(hb:HB h){ev Of:List F6}
 (g:h'.get D=some (.cells [.ptr V 0,cs',hs',.map M] 166)) (rc:B0 h' cs' qc' 105 68 ev.length (ev.map F6.cells).flatten) (rh:B0 h' hs' qh' 105 68 Of.length (Of.map F6.cells).flatten)
 (n:h.next<=h'.next) (k:∀ i,i<h.next->i ≠ D->(0<S.ev.length->i ≠ qc)->(0<S.Of.length->i ≠ qh)->h'.get i=h.get i) (sz:∀ i,G i->i<h.next)
 (fc:0<ev.length->h.next<=qc'/\qc'<h'.next\/qc'=qc/\0<S.ev.length) (fh:0<Of.length->h.next<=qh'/\qh'<h'.next\/qh'=qh/\0<S.Of.length) (ne:0<ev.length->0<Of.length->qc' ≠ qh') :
 Vg h' D V M qc' qh' cs' hs' ms ⟨S.dv,ev,Of⟩ F (Bc G h h'):=by
 obtain⟨b1,b2,b3,b4,b5⟩:=a.sub
 obtain⟨c1,c2,c3,c4,c5⟩:=a.apart
 have lM:=hb _ _ a.map
 have eM:h'.get M=h.get M:=k _ lM (Bh a.map a.Ct (by simp)) (fun y=>Bh a.map (a.E4.block y) (by simp)) (fun y=>Bh a.map (a.Aaz.block y) (by simp))
 refine⟨g,by rw[eM];exact a.map,a.marks,rc,rh,a.dev.frame n fun i hi=>k i (sz i (b1 i hi)) (fun y=>c1 (y ▸ hi)) (fun y z=>c3 y (z ▸ hi)) (fun y z=>c4 y (z ▸ hi)),⟨fun i hi=>.inl (b1 i hi),.inl b2,.inl b3,fun y=>?_,fun y=>?_⟩,⟨c1,c2,fun y z=>?_,fun y z=>?_,ne⟩⟩
 ·rcases fc y with z|⟨z,z'⟩
  ·exact .inr z
  ·rw[z];exact .inl (b4 z')
 ·rcases fh y with z|⟨z,z'⟩
  ·exact .inr z
  ·rw[z];exact .inl (b5 z')
 ·rcases fc y with x|⟨x,x'⟩
  ·have:=sz _ (b1 _ z);omega
  ·rw[x]at z;exact c3 x' z
 ·rcases fh y with x|⟨x,x'⟩
  ·have:=sz _ (b1 _ z);omega
  ·rw[x]at z;exact c4 x' z
theorem Ax0(A:Au disp)(hK:1000<K){d:Nat}(hd:7<=d){h:Aa}{D:Nat}{S:N7}{G:Nat->Prop}(s:Ek h D S G)(hb:HB h){e:F6}(w:e.Wf)(hn:S.ev.length+S.Of.length<200):
 Ok (Af TT disp K d false 169 [.ptr D 0,.agg e.cells] h) fun v h'=>Ek h' D { S with dv:=S.dv.Qi e,Of:=S.Of++[e] } (Bc G h h')/\A4 G h h'/\HB h':=by
 obtain⟨dd,rfl⟩:∃ k,d=k+1:=⟨d-1,by omega⟩
 rw[Aan A (by omega)]
 simp only[V9,Ab]
 have x1:Ext h (h.new (.cells e.cells 105)):=A4.new _ _
 have g3:(h.new (.cells e.cells 105)).get h.next=some (.cells e.cells 105):=Ae _ _
 have hb1:HB (h.new (.cells e.cells 105)):=hb.new _
 have s1:=s.ext x1
 have n1:(h.new (.cells e.cells 105)).next=h.next+1:=rfl
 generalize h.new (.cells e.cells 105)=h1 at x1 g3 hb1 s1 n1 ⊢
 have nx:¬ G h.next:=fun y=>Nat.lt_irrefl _ (s.lt _ y)
 obtain⟨V,M,qc,qh,cs,hs,ms,F,a⟩:=s1.Rp
 have lD:=hb1 _ _ a.Ct
 have l3:=hb1 _ _ g3
 have el:=F6.len w
 rw[Aq lD (by kernel_rfl),B2 a.Ct rfl]
 try simp only[Ab,Bo]
 rw[Aq l3 (by kernel_rfl),Kg g3 rfl (Av el)]
 try simp only[Ab,Bo]
 rw[Wd (v:=.agg e.cells) (z:=List.replicate 4 (EV.int .i64 0)++List.replicate 64 (EV.int .u8 0)) rfl (by simp) el (by omega),Bf]
 have x2:Ext h1 (h1.new (.cells (EV.cells (.agg e.cells)) 105)):=A4.new _ _
 have gx:(h1.new (.cells (EV.cells (.agg e.cells)) 105)).get h1.next=some (.cells e.cells 105):=Ae _ _
 have n2:(h1.new (.cells (EV.cells (.agg e.cells)) 105)).next=h1.next+1:=rfl
 generalize h1.new (.cells (EV.cells (.agg e.cells)) 105)=h2 at x2 gx n2 ⊢
 have hb2:=x2.hb hb1
 have g3:=x2.at hb1 g3
 have s2:=s1.ext x2
 have a2:=a.frame x2.next fun i hi=>x2.get i (s1.lt i hi) id
 have r2:B0 h2.lift hs qh 105 68 S.Of.length (S.Of.map F6.cells).flatten:=a2.Aaz.frame fun _=>Dg _ _
 obtain⟨h3,e3,r3,n3,c3⟩:=Q2 (x:=.slice h1.next 0 1 1 false) (n:=1) r2 rfl (by omega) (by omega) (by omega) (Zo (b:=h1.next) (by rw[Dg];exact gx) el) (by rw[el])
 refine Ok.Amo (S:=fun i=>0<S.Of.length/\i=qh) (by kernel_rfl) (by kernel_rfl) (fun _=>by kernel_rfl) (P:=fun v h'=>v=.slice h2.lift.next 0 (S.Of.length+1) (S.Of.length+1) true/\h'=h3) ⟨_,_,e3,rfl,rfl⟩ (fun _ _ p=>by rw[p.2];exact c3) ?_
 rintro _ _ h4 s' ⟨rfl,rfl⟩ sm x4 hs'
 have hb4:=x4.hb hb2
 rw[Xr]at r3 n3
 rw[Xr]
 have hnq:¬ (0<S.Of.length/\D=qh):=fun y=>Bh a2.Ct (a2.Aaz.block y.1) (by simp) y.2
 have gD:h4.get D=some (.cells [.ptr V 0,cs,hs,.map M] 166):=A4.at x4 hb2 a2.Ct hnq
 have r4:B0 h4 (.slice h2.next 0 (S.Of.length+1) (S.Of.length+1) true) h2.next 105 68 (S.Of.length+1) ((S.Of.map F6.cells).flatten++e.cells):=r3.frame fun _=>sm.get _
 have g3:h4.get h.next=some (.cells e.cells 105):=A4.at x4 hb2 g3 fun y=>by
  have:=a2.Aaz.block y.1
  exact Bh g3 this (by simp) y.2
 have lD4:=hb4 _ _ gD
 try simp only[Ab]
 rw[Rd (by rcases hs' with rfl|⟨w,rfl,_⟩ <;> kernel_rfl)]
 refine Ok.st1 gD rfl rfl (by show 2<4;decide) ?_
 simp only[List.set]
 have l34:=hb4 _ _ g3
 have h2l4:h2.next<h4.next:=by
  have:=r4.block (by omega)
  exact hb4 _ _ this
 have gD5:(h4.put D (.cells [EV.ptr V 0,cs,.slice h2.next 0 (S.Of.length+1) (S.Of.length+1) true,.map M] 166)).get D=some (.cells [EV.ptr V 0,cs,.slice h2.next 0 (S.Of.length+1) (S.Of.length+1) true,.map M] 166):=Aj _ _ _
 have k5:∀ i,i ≠ D->(h4.put D (.cells [EV.ptr V 0,cs,.slice h2.next 0 (S.Of.length+1) (S.Of.length+1) true,.map M] 166)).get i=h4.get i:=fun i hi=>Ar _ (Ne.symm hi)
 have n5:(h4.put D (.cells [EV.ptr V 0,cs,.slice h2.next 0 (S.Of.length+1) (S.Of.length+1) true,.map M] 166)).next=h4.next:=rfl
 have hb5:HB (h4.put D (.cells [EV.ptr V 0,cs,.slice h2.next 0 (S.Of.length+1) (S.Of.length+1) true,.map M] 166)):=hb4.put lD4 _
 have c5:A4 (Bc G h1 h2) h2 (h4.put D (.cells [EV.ptr V 0,cs,.slice h2.next 0 (S.Of.length+1) (S.Of.length+1) true,.map M] 166)):=(x4.mono (fun i hi=>.inl (by rw[hi.2];exact a2.sub.2.2.2.2 hi.1))).A8 (.inl (.inl a.sub.2.1)) lD4 _
 generalize h4.put D (.cells [EV.ptr V 0,cs,.slice h2.next 0 (S.Of.length+1) (S.Of.length+1) true,.map M] 166)=h5 at gD5 k5 n5 hb5 c5 ⊢
 have neD3:h.next ≠ D:=fun y=>nx (y ▸ a.sub.2.1)
 have g3:h5.get h.next=some (.cells e.cells 105):=by rw[k5 _ neD3];exact g3
 have lD5:D<h5.next:=by rw[n5];exact lD4
 have l35:h.next<h5.next:=by rw[n5];exact l34
 have a5:Vg h5 D V M qc h2.next cs (.slice h2.next 0 (S.Of.length+1) (S.Of.length+1) true) ms ⟨S.dv,S.ev,S.Of++[e]⟩ F (Bc G h2 h5):=by
  refine a2.own hb2 gD5 ?_ ?_ c5.next (fun i hi h1 _ h3=>?_) s2.lt (fun y=>.inr ⟨rfl,y⟩) (fun _=>.inl ⟨Nat.le_refl _,by rw[n5];exact h2l4⟩) (fun y _=>?_)
  ·refine a2.E4.frame fun y=>?_
   have gc:=a2.E4.block y
   rw[k5 _ (Bh gc a2.Ct (by simp)),A4.at x4 hb2 gc fun z=>a2.apart.2.2.2.2 y z.1 z.2,gc]
  ·rw[List.length_append,List.map_append,List.flatten_append]
   show B0 h5 _ _ 105 68 (S.Of.length+1) ((S.Of.map F6.cells).flatten++(e.cells++[]))
   rw[List.append_nil]
   exact r4.frame fun _=>k5 _ (by have:=hb2 _ _ a2.Ct;omega)
  ·rw[k5 i h1]
   exact x4.get i hi fun y=>h3 y.1 y.2
  ·have:=hb2 _ _ (a2.E4.block y);omega
 have lt5:∀ i,Bc G h2 h5 i->i<h5.next:=Bc.lt s2.lt c5.next
 have s5:Ek h5 D ⟨S.dv,S.ev,S.Of++[e]⟩ (Bc G h2 h5):=by
  refine⟨lt5,⟨by rw[List.length_append];show S.ev.length+(S.Of.length+1)<=200;omega,s.wf.wf,fun x hx=>?_⟩,V,M,qc,_,cs,_,ms,F,a5⟩
  rcases List.mem_append.1 hx with hx|hx
  ·exact s.wf.Rl x hx
  ·rw[List.mem_singleton.1 hx];exact w
 have c05:A4 G h h5:=((Ext.to x1).trans (Ext.to x2)).then c5 fun j hj hl=>by
  rcases hj with y|y
  ·exact y
  ·omega
 have cG:∀ h9,h5.next<=h9.next->A4 (Bc G h2 h5) h5 h9->A4 G h h9:=fun h9 l c=>c05.then c fun j hj hl=>by
  rcases hj with y|y
  ·exact y
  ·have:=x1.next;have:=x2.next;omega
 have fin:∀ (h9:Aa) (dv:Dv),Ek h9 D ⟨dv,S.ev,S.Of++[e]⟩ (Bc (Bc G h2 h5) h5 h9)->A4 (Bc G h2 h5) h5 h9->HB h9->dv=S.dv.Qi e->Ok (some (.tuple [],h9)) fun v h'=>Ek h' D ⟨S.dv.Qi e,S.ev,S.Of++[e]⟩ (Bc G h h')/\A4 G h h'/\HB h':=fun h9 dv s9 c9 hb9 he=>by
  subst he
  refine .ret ⟨s9.mono (fun i hi=>?_) (Bc.lt s.lt (cG h9 c9.next c9).next),cG h9 c9.next c9,hb9⟩
  rcases hi with (y|y)|y
  ·exact .inl y
  ·have:=x1.next;have:=x2.next;have:=c9.next;exact .inr ⟨by omega,by omega⟩
  ·exact .inr ⟨by have:=c05.next;omega,y.2⟩
 obtain⟨_,e1,e2,_⟩:=e.one
 rw[Ce g3 rfl e1]
 simp only[Ad,I]
 have fails:∀ st:Nat,S.dv.fail e.A2 st=S.dv.Qi e ->
  Ok (Cs 6 63 (((DX.ld ⟨0,[],[],[],[]⟩ 3 D).ld 5 h.next)) h5 (fun h=>Il K (.ptr V 0) (I e.A2) (I st) h) fun _ h s=>some (.tuple [],h)) fun v h'=>Ek h' D ⟨S.dv.Qi e,S.ev,S.Of++[e]⟩ (Bc G h h')/\A4 G h h'/\HB h':=by
  intro st hst
  refine Ok.Amo (S:=F) (by kernel_rfl) (by kernel_rfl) (fun _=>by kernel_rfl) (Ar3 (K:=K) a5.dev.lift (Hu hb5) e.A2 st) (fun _ _ p=>p.2.1) ?_
  rintro _ h6 h9 s' ⟨d6,_,hb6⟩ sm c9 _
  obtain⟨s9,c59,_⟩:=s5.call a5 hb5 d6 sm c9
  exact fin h9 _ s9 c59 (sm.hb hb6) hst
 by_cases k1:e.kind=1
 ·simp only[k1,decide_true,Ab]
  rw[Kg g3 rfl (Av el)]
  refine(Aon (K:=K) A hK (by omega) s5 hb5 w).Al ?_
  rintro _ h9 ⟨s9,c9,hb9⟩
  exact fin h9 _ s9 c9 hb9 (by unfold Dv.Qi;rw[if_pos k1])
 ·simp only[k1,decide_false,Ab]
  by_cases k2:e.kind=2
  ·simp only[k2,decide_true,Ab,Bo]
   rw[Aq lD5 (by kernel_rfl),B2 gD5 rfl]
   try simp only[Ab,Bo]
   rw[Aq l35 (by kernel_rfl),Ce g3 rfl e2]
   exact fails 3 (by unfold Dv.Qi;rw[if_neg k1,if_pos k2])
  ·simp only[k2,decide_false,Ab]
   by_cases k3:e.kind=3
   ·simp only[k3,decide_true,Ab,Bo]
    rw[Aq lD5 (by kernel_rfl),B2 gD5 rfl]
    try simp only[Ab,Bo]
    rw[Aq l35 (by kernel_rfl),Ce g3 rfl e2]
    exact fails 4 (by unfold Dv.Qi;rw[if_neg k1,if_neg k2,if_pos k3])
   ·simp only[k3,decide_false,Ab]
    by_cases k4:e.kind=4
    ·simp only[k4,decide_true,Ab,B2 gD5 rfl]
     refine(Apz (K:=K) a5.dev hb5).Al ?_
     rintro _ h9 ⟨d9,c9,hb9⟩
     obtain⟨s9,c59⟩:=s5.put a5 hb5 (d9.grow a5.dev.lt c9.next) c9
     exact fin h9 _ s9 c59 hb9 (by unfold Dv.Qi;rw[if_neg k1,if_neg k2,if_neg k3,if_pos k4])
    ·simp only[k4,decide_false,Ab]
     exact fin h5 S.dv (s5.grow s5.lt (Nat.le_refl _)) (A4.refl _) hb5 (by unfold Dv.Qi;rw[if_neg k1,if_neg k2,if_neg k3,if_neg k4])
theorem Axv(q o n r:Nat)(op:Bool)(k:EV->R):Ap Gj (bin TT .eql 101) (.slice q o n r op) .Ag k=k (.bool false):=by kernel_rfl
theorem As8(q o z:Nat)(k:EV->R):Ap Gj (bin TT .eql 101) (.tail q o z) .Ag k=k (.bool false):=by kernel_rfl
theorem Ap0 {h:Aa}{q:Nat}{e:F6}{ev:List F6}(w:∀ x ∈ e::ev,x.Wf)(hn:ev.length<=65000)(hg:h.get q=some (.vec ((e::ev).map F6.cells).flatten 105 68))(hb:HB h){kk:EV->Aa->R}{Q:EV->Aa->Prop}
 (hk:∀ v h' q',B0 h' v q' 105 68 ev.length (ev.map F6.cells).flatten->Ext h h'->(0<ev.length->h.next<=q')->Ok (kk v h') Q) :
 Ok (Apa 68 (.slice q 0 (e::ev).length (e::ev).length true) (some (.int .i64 1)) none none fun v=>Al (Bz K v h) kk) Q:=by
 have x1:Ext h (h.new (.cells [] 105)):=A4.new _ _
 have eb:B3 (List.replicate 4 (.int .i64 0)++List.replicate 64 (.int .u8 0)) 105 68 0 [] h=some (.slice h.next 0 0 0 false,h.new (.cells [] 105)):=rfl
 have wl:∀ x ∈ ev.map F6.cells,x.length=68:=fun x hx=>by
  obtain⟨y,hy,rfl⟩:=List.mem_map.1 hx
  exact F6.len (w y (List.mem_cons_of_mem _ hy))
 have fl:(ev.map F6.cells).flatten.length=ev.length*68:=by rw[Pe _ wl,List.length_map]
 rcases Nat.eq_zero_or_pos ev.length with h0|hp
 ·have:ev = []:=List.length_eq_zero_iff.1 h0
  subst this
  have e1:∀ k:EV->R,Apa 68 (.slice q 0 [e].length [e].length true) (some (.int .i64 1)) none none k=k (.tail q 68 0):=fun k=>rfl
  rw[e1]
  simp only[Bz,As8,Ab,Eg]
  rw[eb,Bf]
  have:D5 105 68 (.slice h.next 0 0 0 false) (.tail q 68 0) (h.new (.cells [] 105))=some (.slice h.next 0 0 0 false,h.new (.cells [] 105)):=by unfold D5;rfl
  rw[this,Bf]
  try simp only[Ab]
  exact hk _ _ 0 (.empty _ _ _ _ _) x1 fun y=>absurd y (Nat.lt_irrefl _)
 ·obtain⟨m,hm⟩:∃ m,ev.length=m+1:=⟨ev.length-1,by omega⟩
  have e1:∀ k:EV->R,Apa 68 (.slice q 0 (e::ev).length (e::ev).length true) (some (.int .i64 1)) none none k=k (.slice q 68 ev.length ev.length true):=fun k=>by
   rw[List.length_cons,hm];rfl
  rw[e1]
  simp only[Bz,Axv,Ab,Eg]
  rw[eb,Bf]
  have hc:Nj (h.new (.cells [] 105)) 68 ev.length (.slice q 68 ev.length ev.length true)=some (ev.map F6.cells).flatten:=by
   show Ao (Nat.beq ev.length 0) (some []) (So _ q 68 (Nat.mul ev.length 68))=_
   rw[show Nat.beq ev.length 0=false by rw[hm];rfl,Aw]
   unfold So U1
   rw[x1.at hb hg]
   have el:=F6.len (w e (List.mem_cons_self ..))
   show Oh (e.cells++(ev.map F6.cells).flatten) 68 (ev.length*68)=_
   rw[Im (by rw[List.length_append,el,fl];exact Nat.le_refl _),<-el,List.drop_left,List.take_of_length_le (by rw[fl,el];exact Nat.le_refl _)]
  have ap:=Yz (h:=h.new (.cells [] 105)) (b:=h.next) (e:=105) (x:=.slice q 68 ev.length ev.length true) rfl (by omega) hc fl 0
  rw[show ∀ (x:R) (k k':EV->Aa->R),Al (Al x k) k'=Al x fun v h=>Al (k v h) k' from fun x k k'=>by cases x <;> rfl]
  refine ap.Al ?_
  rintro v h2 ⟨q',r,x2,l⟩
  rw[Bf]
  exact hk v h2 q' r (x1.trans x2) fun y=>by have:=l y;have:=x1.next;omega
theorem A0r(A:Au disp)(hK:1000<K){d:Nat}(hd:9<=d){D:Nat}:∀ (m:Nat) (S:N7) (h:Aa) (G:Nat->Prop),S.ev.length<m->Ek h D S G->HB h ->
 Ok (D2 (Af TT disp K d false) (Af TT disp K d true) K m (.ptr D 0) h) fun v h'=>Ek h' D S.due (Bc G h h')/\A4 G h h'/\HB h':=by
 intro m
 induction m with
 | zero=>intro S h G hm;omega
 | succ m ih=>
  intro S h G hm s hb
  obtain⟨V,M,qc,qh,cs,hs,ms,F,a⟩:=s.Rp
  obtain⟨zl,z,q,b,_⟩:=a.dev.Rp
  have lD:=hb _ _ a.Ct
  have lV:=hb _ _ b.dev
  have stay:S.due=S->Ok (some (.tuple [],h)) fun(_:EV) h'=>Ek h' D S.due (Bc G h h')/\A4 G h h'/\HB h':=fun y=>by
   rw[y];exact .ret ⟨s.grow s.lt (Nat.le_refl _),A4.refl _,hb⟩
  simp only[D2,Ab,Bo,Aq lD,B2 a.Ct rfl]
  have hdn:Kw K (.ptr V 0) h.lift=some (.bool S.dv.down,h.lift):=by
   simp only[Kw,Ab,B2 b.lift.dev rfl]
  rw[Ra (by kernel_rfl) (by kernel_rfl) hdn]
  obtain⟨dv,ev,Of⟩:=S
  simp only at a hdn b hm ⊢
  cases hdd:dv.down with
  | true=>
   simp only[Ab,Ad,Bo,Jo,Hp]
   refine stay ?_
   unfold N7.due
   cases ev with
   | nil=>rfl
   | cons e r=>unfold Ata;rw[if_pos (.inl hdd)]
  | false=>
   simp only[Ab,Ad,Bo]
   rw[Aq lD (by kernel_rfl),B2 a.Ct rfl]
   simp only[Ab,a.E4.Ho,Ad]
   cases ev with
   | nil=>
    simp only[List.length_nil,Jo,Hp,Ab,Ad]
    exact stay rfl
   | cons e r=>
    have we:=s.wf.wf e (List.mem_cons_self ..)
    have el:=F6.len we
    have gq:=a.E4.block (Nat.succ_pos _)
    have lq:=hb _ _ gq
    have c0:Oh (((e::r).map F6.cells).flatten) 0 68=some e.cells:=by
     show Oh (e.cells++_) 0 68=_
     rw[Im (by rw[List.length_append,el];omega),List.drop_zero,<-el,List.take_left]
    have at0:(((e::r).map F6.cells).flatten)[0]? = some (I e.Rp):=rfl
    rw[decide_eq_true (show (0:Int)<((e::r).length:Int) by rw[List.length_cons];omega)]
    simp only[Jo,Ab,Ad,Bo]
    rw[Aq lD (by kernel_rfl),B2 a.Ct rfl]
    try simp only[Ab,Bo]
    rw[show ∀ k:EV->R,Ix 68 cs (.int .i64 0) k=k (.ptr qc (0*68)) from fun k=>a.E4.ix (Nat.succ_pos _) .i64 k]
    try simp only[Ab,Bo]
    rw[Aq lq (by kernel_rfl),Ce gq rfl at0]
    try simp only[Ab,Bo]
    rw[Aq lD (by kernel_rfl),B2 a.Ct rfl]
    try simp only[Ab,Bo]
    have hct:J5 K (.ptr V 0) h.lift=some (I dv.cnt,h.lift):=by
     simp only[J5,Ab,B2 b.lift.dev rfl]
    rw[Ra (by kernel_rfl) (by kernel_rfl) hct]
    simp only[I,Ad]
    by_cases hat:e.Rp<=dv.cnt
    ·rw[decide_eq_true hat]
     simp only[Hp,Ab,Wj,B2 a.Ct rfl]
     rw[show ∀ k:EV->R,Ix 68 cs (.int .i64 0) k=k (.ptr qc (0*68)) from fun k=>a.E4.ix (Nat.succ_pos _) .i64 k]
     rw[Kg gq rfl c0]
     try simp only[Ab]
     have el0:(List.replicate 4 (EV.int .i64 0)++List.replicate 64 (EV.int .u8 0)).length=68:=by simp
     refine Ok.st e.cells (Ae _ _) rfl (by show Je e.cells=68;rw[Ch,el]) (Cd (by rw[el0];exact el.symm)) ?_
     have x1:Ext h ((h.new (.cells (List.replicate 4 (EV.int .i64 0)++List.replicate 64 (EV.int .u8 0)) 105)).put h.next (.cells e.cells 105)):=(A4.new h _:Ext _ _).A8 (.inr (Nat.le_refl _)) (Nat.lt_succ_self _) _
     have g2:((h.new (.cells (List.replicate 4 (EV.int .i64 0)++List.replicate 64 (EV.int .u8 0)) 105)).put h.next (.cells e.cells 105)).get h.next=some (.cells e.cells 105):=Aj _ _ _
     generalize (h.new (.cells (List.replicate 4 (EV.int .i64 0)++List.replicate 64 (EV.int .u8 0)) 105)).put h.next (.cells e.cells 105)=h1 at x1 g2 ⊢
     have hb1:=x1.hb hb
     have s1:=s.ext x1
     have a1:=a.frame x1.next fun i hi=>x1.get i (s.lt i hi) id
     have gq1:=a1.E4.block (Nat.succ_pos _)
     have hcs:=a1.E4.slice (Nat.succ_pos _)
     subst hcs
     simp only[Ab,B2 a1.Ct rfl]
     have hev:=s.wf.ev
     refine Ap0 (K:=K) s.wf.wf (by simp only[List.length_cons]at hev;omega) gq1 hb1 ?_
     intro v h2 q' r2 x2 lq'
     have hb2:=x2.hb hb1
     have s2:=s1.ext x2
     have a2:=a1.frame x2.next fun i hi=>x2.get i (s1.lt i hi) id
     have g2:=x2.at hb1 g2
     try simp only[Ab]
     have lD2:=hb2 _ _ a2.Ct
     refine Ok.st1 a2.Ct r2.plain.1 r2.plain.2 (by show 1<4;decide) ?_
     simp only[List.set]
     have gD3:(h2.put D (.cells [EV.ptr V 0,v,hs,.map M] 166)).get D=some (.cells [EV.ptr V 0,v,hs,.map M] 166):=Aj _ _ _
     have k3:∀ i,i ≠ D->(h2.put D (.cells [EV.ptr V 0,v,hs,.map M] 166)).get i=h2.get i:=fun i hi=>Ar _ (Ne.symm hi)
     have hb3:HB (h2.put D (.cells [EV.ptr V 0,v,hs,.map M] 166)):=hb2.put lD2 _
     have c3:A4 G h2 (h2.put D (.cells [EV.ptr V 0,v,hs,.map M] 166)):=(A4.refl h2).A8 (.inl a.sub.2.1) lD2 _
     have n3:(h2.put D (.cells [EV.ptr V 0,v,hs,.map M] 166)).next=h2.next:=rfl
     generalize h2.put D (.cells [EV.ptr V 0,v,hs,.map M] 166)=h3 at gD3 k3 hb3 c3 n3 ⊢
     have nD:h.next ≠ D:=by omega
     have g3:h3.get h.next=some (.cells e.cells 105):=by rw[k3 _ nD];exact g2
     have rb:0<r.length->q'<h2.next:=fun y=>hb2 _ _ (r2.block y)
     have a3:Vg h3 D V M q' qh v hs ms ⟨dv,r,Of⟩ F (Bc G h1 h3):=by
      have h13:h1.next<=h3.next:=by rw[n3];exact x2.next
      have k13:∀ i,i<h1.next->i ≠ D->h3.get i=h1.get i:=fun i hi hne=>by rw[k3 i hne,x2.get i hi id]
      refine a1.own hb1 gD3 (r2.frame fun y=>k3 _ (by have:=lq' y;have:=hb1 _ _ a1.Ct;omega)) (a1.Aaz.frame fun y=>k13 _ (hb1 _ _ (a1.Aaz.block y)) (Bh (a1.Aaz.block y) a1.Ct (by simp))) h13 (fun i hi h1 _ _=>k13 i hi h1) s1.lt
       (fun y=>.inl ⟨lq' y,by rw[n3];exact rb y⟩) (fun y=>.inr ⟨rfl,y⟩) fun y z=>?_
      have:=lq' y;have:=hb1 _ _ (a1.Aaz.block z);omega
     have c13:A4 G h h3:=((Ext.to x1).trans (Ext.to x2)).trans c3
     have s3:Ek h3 D ⟨dv,r,Of⟩ (Bc G h1 h3):=by
      refine⟨Bc.lt s1.lt (by rw[n3];exact x2.next),⟨?_,fun x hx=>s.wf.wf x (List.mem_cons_of_mem _ hx),s.wf.Rl⟩,V,M,q',qh,v,hs,ms,F,a3⟩
      have:=s.wf.ev
      simp only[List.length_cons]at this ⊢
      omega
     rw[Kg g3 rfl (Av el)]
     refine(Ax0 (K:=K) A hK (by omega) s3 hb3 we (by have:=s.wf.ev;simp only[List.length_cons]at this ⊢;omega)).Al ?_
     rintro _ h4 ⟨s4,c4,hb4⟩
     have hdue:(N7.mk dv (e::r) Of).due=(N7.mk (dv.Qi e) r (Of++[e])).due:=by
      unfold N7.due
      conv=>lhs;unfold Ata
      rw[if_neg (by rw[hdd];rintro(y|y);exact absurd y (by simp);exact y hat)]
     rw[hdue]
     refine(ih ⟨dv.Qi e,r,Of++[e]⟩ h4 _ (by simp only[List.length_cons]at hm ⊢;omega) s4 hb4).mono ?_
     rintro _ h5 ⟨s5,c5,hb5⟩
     have t1:=x1.next
     have t2:=x2.next
     have t4:=c4.next
     have t5:=c5.next
     have c4':A4 G h h4:=c13.then c4 fun j hj hl=>by
      rcases hj with y|y
      ·exact y
      ·omega
     have c5':A4 G h h5:=c4'.then c5 fun j hj hl=>by
      rcases hj with (y|y)|y
      ·exact y
      ·omega
      ·omega
     refine⟨s5.mono (fun i hi=>?_) (Bc.lt s.lt c5'.next),c5',hb5⟩
     rcases hi with ((y|y)|y)|y
     ·exact .inl y
     ·exact .inr ⟨by omega,by omega⟩
     ·exact .inr ⟨by omega,by omega⟩
     ·exact .inr ⟨by omega,y.2⟩
    ·rw[decide_eq_false hat]
     simp only[Hp,Ab]
     refine stay ?_
     unfold N7.due Ata
     rw[if_pos (.inr hat)]
theorem A1b(A:Au disp)(hK:1000<K)(S:N7):∀ d,12<=d->A4a disp K d S:=by
 intro d hd h D G s hb
 obtain⟨e,rfl⟩:∃ k,d=k+1:=⟨d-1,by omega⟩
 rw[Aej A (by omega)]
 exact A0r (K:=K) A hK (by omega) K S h G (by have:=s.wf.ev;omega) s hb
end Go.Ev

namespace Go.Ev
open Go.Proofs
set_option maxRecDepth 100000
variable {K:Nat}{disp:Nat->Option FT}
def Out(F:Nat->Prop)(h:Aa):Nat->Prop:=fun i=>i<h.next/\¬ F i
abbrev Kf(F:Nat->Prop):Aa->Aa->Prop:=A4 fun i=>¬ F i
theorem A4.kf {F:Nat->Prop}{h h':Aa}(c:A4 (Out F h) h h'):Kf F h h':=c.mono fun _ y=>y.2
theorem Ext.kf {F:Nat->Prop}{h h':Aa}(c:Ext h h'):Kf F h h':=Ext.to c
theorem Kf.less {F F':Nat->Prop}{h h':Aa}(c:Kf F h h')(s:∀ i,F' i->F i):Kf F' h h':=c.mono fun i y z=>y (s i z)
theorem Kf.at {F:Nat->Prop}{h h':Aa}(c:Kf F h h')(hb:HB h){i:Nat}{o:Cn}(g:h.get i=some o)(hF:F i):h'.get i=some o:=A4.at c hb g fun y=>y hF
theorem Ext.As7 {F:Nat->Prop}{h h1 h2:Aa}(x:Ext h h1)(c:Kf (Bc F h h1) h1 h2):Kf F h h2:=by
 refine(Ext.to (S:=fun i=>¬ F i) x).then c fun i y hl z=>y (.inl z)
theorem N3.frame {h h':Aa}{m:Nat}{S:Mi}{H:Nat->Prop}(s:N3 h m S H)(n:h.next<=h'.next)(e:∀ i,H i->h'.get i=h.get i):N3 h' m S H:=by
 obtain⟨lt,D,p,bl,ql,np,q,c,G,a⟩:=s
 obtain⟨t1,t2,t3,t4,t5,t6⟩:=a.sub
 have k:∀ i o,h.get i=some o->H i->h'.get i=some o:=fun i o g hi=>by rw[e i hi];exact g
 exact⟨fun i hi=>Nat.lt_of_lt_of_le (lt i hi) n,D,p,bl,ql,np,q,c,G,⟨k _ _ a.Kb.Kb t2,k _ _ a.Kb.Aik t3⟩,
  ⟨a.Ft.pos,k _ _ a.Ft.Ft t4,k _ _ a.Ft.row t5,fun d hd=>k _ _ (a.Ft.que d hd) (t6 d hd).1,fun d hd=>k _ _ (a.Ft.chan d hd) (t6 d hd).2,a.Ft.inj⟩,
  a.psz,a.drv.frame n fun i hi=>e i (t1 i hi),a.apart,a.sub⟩
structure Mi.Wp(S:Mi):Prop where
 sm:Sm S.g
 ps:∀ d,d<S.g.D.toNat->∀ x ∈ S.ps d,De S.g x=d/\¬ S.bad x.toNat=1
structure Mi.Wf(S:Mi):Prop extends S.Wp where
 op:(S.a = -1/\S.b = -1)\/((0<=De S.g S.a/\¬ S.bad S.a.toNat=1)/\(0<=De S.g S.b/\¬ S.bad S.b.toNat=1))
theorem Abu {g:Gm}(s:Sm g){z:Int}(h:0<=De g z):Rng z:=by
 have h1:=s.d1;have h2:=s.z1;have h3:=s.d0;have h4:=s.z0
 rcases Wg s z with y|⟨_,_,_,y1,y2⟩
 ·omega
 ·obtain⟨m0,m1⟩:=Un (a:=g.D) (b:=g.Z) (A:=8) (B:=64) (by omega) (by omega) (by omega) (by omega)
  exact⟨by omega,by omega⟩
theorem T2 {g:Gm}(s:Sm g){z:Int}(h:0<=De g z):0<=z:=by
 rcases Wg s z with y|⟨_,_,_,y1,y2⟩ <;> omega
theorem Mi.Wf.rng {S:Mi}(w:S.Wf):Rng S.a/\Rng S.b:=by
 rcases w.op with ⟨h1,h2⟩|⟨h1,h2⟩
 ·rw[h1,h2];exact⟨⟨by omega,by omega⟩,⟨by omega,by omega⟩⟩
 ·exact⟨Abu w.sm h1.1,Abu w.sm h2.1⟩
theorem Ano {g:Gm}{ps:Nat->List Int}{P:Int->Prop}(w:∀ d,d<g.D.toNat->∀ x ∈ ps d,De g x=d/\P x)(n:Nat)(z:Int)(hz:0<=De g z->P z):∀ d,d<g.D.toNat->∀ x ∈ (Rr g n ps z).2 d,De g x=d/\P x:=by
 intro d hd x hx
 unfold Rr at hx
 split at hx
 ·exact w d hd x hx
 ·rename_i h0
  split at hx
  ·exact w d hd x hx
  ·split at hx
   ·simp only[upd]at hx
    split at hx
    ·rename_i e
     subst e
     rcases List.mem_append.1 hx with hx|hx
     ·exact w _ hd x hx
     ·rw[List.mem_singleton.1 hx];exact⟨by omega,hz (by omega)⟩
    ·exact w d hd x hx
   ·exact w d hd x hx
theorem Ao5(S:Mi)(z u:Int):(S.leave z u).1.g=S.g/\(S.leave z u).1.a=S.a/\(S.leave z u).1.b=S.b/\(S.leave z u).1.u=S.u/\(S.leave z u).1.bad=S.bad:=by
 unfold Mi.leave
 split
 ·exact⟨rfl,rfl,rfl,rfl,rfl⟩
 ·split <;> exact⟨rfl,rfl,rfl,rfl,rfl⟩
theorem Mi.Wp.leave {S:Mi}(w:S.Wp)(z u:Int):(S.leave z u).1.Wp:=by
 unfold Mi.leave
 split
 ·exact w
 ·rename_i h0
  split
  ·refine⟨w.sm,Ano w.ps _ _ fun hz y=>h0 (.inr (.inl ?_))⟩
   unfold Mi.Uj
   rw[decide_eq_true hz,decide_eq_true y];rfl
  ·exact⟨w.sm,w.ps⟩
theorem Ao2(S:Mi):S.close.1.g=S.g/\S.close.1.a = -1/\S.close.1.b = -1/\S.close.1.u=0/\S.close.1.bad=S.bad:=by
 unfold Mi.close
 obtain⟨a1,a2,a3,a4,a5⟩:=Ao5 { S with a:=-1,b:=-1,u:=0 } S.a S.u
 obtain⟨b1,b2,b3,b4,b5⟩:=Ao5 (({ S with a:=-1,b:=-1,u:=0 }:Mi).leave S.a S.u).1 S.b S.u
 exact⟨b1.trans a1,b2.trans a2,b3.trans a3,b4.trans a4,b5.trans a5⟩
theorem Mi.Wp.close {S:Mi}(w:S.Wp):S.close.1.Wf:=by
 have:({ S with a:=-1,b:=-1,u:=0 }:Mi).Wp:=⟨w.sm,w.ps⟩
 obtain⟨a1,a2,a3,a4,a5⟩:=Ao2 S
 exact { toWp:=(this.leave _ _).leave _ _,op:=.inl ⟨a2,a3⟩ }
theorem Mi.Wp.mark {S:Mi}(w:S.Wp){z:Int}(hz:0<=De S.g z):(S.mark z).Wp:=by
 refine⟨w.sm,fun d hd x hx=>?_⟩
 have hx:x ∈ S.dropped z d:=hx
 unfold Mi.dropped at hx
 rw[if_neg (by omega)]at hx
 have key:∀ x,De S.g x=d/\¬ S.bad x.toNat=1->¬ x=z->De S.g x=d/\¬ (S.mark z).bad x.toNat=1:=fun x hx hn=>by
  refine⟨hx.1,?_⟩
  show ¬ (if x.toNat=z.toNat then (1:Int) else S.bad x.toNat)=1
  have h1:=T2 w.sm hz
  have h2:=T2 w.sm (z:=x) (by rw[hx.1];omega)
  rw[if_neg (by omega)]
  exact hx.2
 simp only[upd]at hx
 split at hx
 ·rename_i e
  have h2:=(List.mem_filter.1 hx).2
  have h1:=w.ps d hd x (by rw[e];exact(List.mem_filter.1 hx).1)
  exact key x h1 (of_decide_eq_true h2)
 ·rename_i hne
  have h1:=w.ps d hd x hx
  refine key x h1 fun y=>hne ?_
  subst y
  omega
theorem Mi.Wf.Bl {S:Mi}(w:S.Wf)(z:Int):(S.Bl z).1.Wf:=by
 unfold Mi.Bl
 split
 ·exact w
 ·rename_i hz
  have hz:0<=De S.g z:=by omega
  split
  ·exact w
  ·split
   ·rename_i hn
    refine { toWp:=w.toWp.mark hz,op:=?_ }
    rcases w.op with y|⟨y1,y2⟩
    ·exact .inl y
    ·have key:∀ x,(0<=De S.g x/\¬ S.bad x.toNat=1)->¬ z=x->0<=De S.g x/\¬ (S.mark z).bad x.toNat=1:=fun x hx hn=>by
      refine⟨hx.1,?_⟩
      show ¬ (if x.toNat=z.toNat then (1:Int) else S.bad x.toNat)=1
      have h1:=T2 w.sm hz
      have h2:=T2 w.sm hx.1
      rw[if_neg (by omega)]
      exact hx.2
     exact .inr ⟨key _ y1 hn.1,key _ y2 hn.2⟩
   ·exact(w.toWp.mark hz).close
theorem Agw {g:Gm}{ps ps':Nat->List Int}{x y:Int}{P:Int->Prop}(w:∀ d,d<g.D.toNat->∀ x ∈ ps d,De g x=d/\P x)(h:Adk ps g.D.toNat=some (x,y,ps')):
 ∃ a b:Nat,a<g.D.toNat/\b<g.D.toNat/\a ≠ b/\ps a=x::ps' a/\ps b=y::ps' b/\(∀ d,d ≠ a->d ≠ b->ps' d=ps d)/\Dz ps (-1) g.D.toNat=a/\Dz ps a g.D.toNat=b/\(De g x=a/\P x)/\(De g y=b/\P y):=by
 unfold Adk at h
 split at h
 ·cases h
 ·rename_i hp
  obtain⟨a,b,e1,e2,h1,h2,h3,h4,h5⟩:=Amp hp Adn
  rw[e1,e2]at h
  injection h with h
  injection h with hx h
  injection h with hy hps
  simp only[Int.toNat_natCast]at hx hy hps
  obtain⟨x',r,hr⟩:∃ x r,ps a=x::r:=by cases hq:ps a with|nil=>exact absurd hq h4|cons x r=>exact⟨x,r,rfl⟩
  obtain⟨y',t,ht⟩:∃ x r,ps b=x::r:=by cases hq:ps b with|nil=>exact absurd hq h5|cons x r=>exact⟨x,r,rfl⟩
  rw[hr]at hx hps
  rw[ht]at hy hps
  simp only[List.headD_cons,List.tail_cons]at hx hy hps
  subst hx;subst hy;subst hps
  refine⟨a,b,h1,h2,h3,?_,?_,fun d d1 d2=>?_,e1,e2,w a h1 _ (by rw[hr];exact List.mem_cons_self ..),w b h2 _ (by rw[ht];exact List.mem_cons_self ..)⟩
  ·rw[hr];simp[upd,h3]
  ·rw[ht];simp[upd]
  ·simp[upd,d1,d2]
theorem Mi.Wf.ready {S:Mi}(w:S.Wf):S.ready.1.Wf:=by
 unfold Mi.ready
 split
 ·exact w
 ·split
  ·exact { toWp:=⟨w.sm,w.ps⟩,op:=w.op }
  ·cases hp:Adk S.ps S.g.D.toNat with
   | none=>exact { toWp:=⟨w.sm,w.ps⟩,op:=w.op }
   | some t=>
    obtain⟨x,y,ps'⟩:=t
    obtain⟨a,b,h1,h2,h3,ea,eb,ed,_,_,dx,dy⟩:=Agw w.ps hp
    refine { toWp:=⟨w.sm,fun d hd z hz=>?_⟩,op:=.inr ⟨⟨by show 0<=De S.g x;omega,dx.2⟩,⟨by show 0<=De S.g y;omega,dy.2⟩⟩ }
    have hz:z ∈ ps' d:=hz
    refine w.ps d hd z ?_
    by_cases d1:d=a
    ·subst d1;rw[ea];exact List.mem_cons_of_mem _ hz
    ·by_cases d2:d=b
     ·subst d2;rw[eb];exact List.mem_cons_of_mem _ hz
     ·rw[ed d d1 d2]at hz;exact hz
structure H4(h:Aa)(m:Nat)(S:Mi)(F:Nat->Prop):Prop where
 s:N3 h m S (Out F h)
 lt:∀ i,F i->i<h.next
 wf:S.Wf
section
variable {h h':Aa}{m:Nat}{S S':Mi}{F F':Nat->Prop}
theorem H4.made(M:H4 h m S F)(s:N3 h' m S' (Bc (Out F h) h h'))(c:A4 (Out F h) h h')(w:S'.Wf):H4 h' m S' F/\Kf F h h':=by
 refine⟨⟨s.mono (fun i hi=>?_) fun i hi=>hi.1,fun i hi=>Nat.lt_of_lt_of_le (M.lt i hi) c.next,w⟩,c.kf⟩
 rcases hi with hi|hi
 ·exact⟨Nat.lt_of_lt_of_le hi.1 c.next,hi.2⟩
 ·exact⟨hi.2,fun y=>by have:=M.lt i y;omega⟩
theorem H4.ext(M:H4 h m S F)(hb:HB h)(x:Ext h h'):H4 h' m S (Bc F h h'):=by
 refine⟨(M.s.ext hb x).mono (fun i hi=>⟨Nat.lt_of_lt_of_le hi.1 x.next,fun y=>?_⟩) fun i hi=>hi.1,Bc.lt M.lt x.next,M.wf⟩
 rcases y with y|y
 ·exact hi.2 y
 ·have:=hi.1;omega
theorem H4.less(M:H4 h m S F)(s:∀ i,F' i->F i):H4 h m S F':=
 ⟨M.s.mono (fun i hi=>⟨hi.1,fun y=>hi.2 (s i y)⟩) fun i hi=>hi.1,fun i hi=>M.lt i (s i hi),M.wf⟩
theorem H4.Atb {T:Nat->Prop}(M:H4 h m S F)(c:A4 T h h')(t:∀ i,T i->i<h.next->F i):H4 h' m S F:=by
 refine⟨(M.s.frame c.next fun i hi=>c.get i hi.1 fun y=>hi.2 (t i y hi.1)).mono (fun i hi=>⟨Nat.lt_of_lt_of_le hi.1 c.next,hi.2⟩) fun i hi=>hi.1,fun i hi=>Nat.lt_of_lt_of_le (M.lt i hi) c.next,M.wf⟩
end
section
variable (A:Au disp)(hK:10000<K){d:Nat}{h:Aa}{m:Nat}{S:Mi}{F:Nat->Prop}(M:H4 h m S F)(hb:HB h)
include A hK M hb
theorem A5p(n:Nat):Af6 disp K n:=fun T _ d hd=>A1b A (by omega) T d hd
theorem Aw3(hd:16<=d):Ok (Af TT disp K d false 80 [.ptr m 0] h) fun v h'=>v=I S.ready.2/\H4 h' m S.ready.1 F/\Kf F h h'/\HB h':=by
 refine(Aiv A hK hd (A5p A hK M hb S.dr.ev.length) (Nat.le_refl _) M.s hb).mono ?_
 rintro v h' ⟨e,s,c,hb'⟩
 obtain⟨M',k⟩:=M.made s c M.wf.ready
 exact⟨e,M',k,hb'⟩
theorem Ali(hd:18<=d){z:Int}(hz:Rng z):Ok (Af TT disp K d false 20 [.ptr m 0,I z] h) fun v h'=>v=I (S.Bl z).2/\H4 h' m (S.Bl z).1 F/\Kf F h h'/\HB h':=by
 refine(Aa8 A hK hd (A5p A hK M hb S.dr.ev.length) (Nat.le_refl _) M.s hb M.wf.rng.1 M.wf.rng.2 hz).mono ?_
 rintro v h' ⟨e,s,c,hb'⟩
 obtain⟨M',k⟩:=M.made s c (M.wf.Bl z)
 exact⟨e,M',k,hb'⟩
end
end Go.Ev

namespace Go.Ev
open Go.Proofs
set_option maxRecDepth 100000
variable {K:Nat}{disp:Nat->Option FT}
theorem Ek.lift {h:Aa}{D:Nat}{S:N7}{G:Nat->Prop}(d:Ek h D S G):Ek h.lift D S G:=d.frame (Nat.le_refl _) fun i _=>Dg h i
theorem Ek.same {h h3 h4:Aa}{D:Nat}{S:N7}{G:Nat->Prop}(d:Ek h3 D S (Bc G h.lift h3))(sm:Aqe h3 h4):Ek h4 D S (Bc G h h4):=by
 refine(d.frame (h':=h4) (by rw[sm.next];exact Nat.le_refl _) fun j _=>sm.get j).mono (fun j hj=>?_) fun j hj=>?_
 ·rcases hj with y|y
  ·exact .inl y
  ·exact .inr ⟨y.1,by rw[sm.next];exact y.2⟩
 ·rw[sm.next]
  rcases hj with y|y
  ·exact d.lt _ (.inl y)
  ·rw[sm.next]at y;exact y.2
theorem H4.drv {h h':Aa}{m D p bl ql np:Nat}{q c:Nat->Nat}{S:Mi}{G F:Nat->Prop}{dr:N7}(M:H4 h m S F)(hb:HB h)(a:Ad8 h m D p bl ql np q c S G (Out F h))(d:Ek h' D dr (Bc G h h'))(ch:A4 G h h'):
 H4 h' m { S with dr:=dr } F/\Kf F h h':=by
 have cH:=ch.mono a.sub.1
 exact M.made ⟨Bc.lt M.s.lt cH.next,D,p,bl,ql,np,q,c,_,a.As4 hb d ch⟩ cH { toWp:=⟨M.wf.sm,M.wf.ps⟩,op:=M.wf.op }
noncomputable def Mi.put(S:Mi)(e:En)(A2 Dm Ax seq:Int):Mi × Int:=
 if ¬ (G2 { e with Dm:=Dm } A2 S.u Ax seq).2=0 then (S,(G2 { e with Dm:=Dm } A2 S.u Ax seq).2) else
 ({ S with dr:=(S.dr.append A2 (E2 (Rq (G2 { e with Dm:=Dm } A2 S.u Ax seq).1))).1 },
  if (S.dr.append A2 (E2 (Rq (G2 { e with Dm:=Dm } A2 S.u Ax seq).1))).2.2=0/\¬ (S.dr.append A2 (E2 (Rq (G2 { e with Dm:=Dm } A2 S.u Ax seq).1))).2.1=S.u then 30 else (S.dr.append A2 (E2 (Rq (G2 { e with Dm:=Dm } A2 S.u Ax seq).1))).2.2)
theorem Aj8:List.replicate 5 (EV.int .i64 0)++List.replicate 44 (EV.int .u8 0)=Fr.zero.cells:=by kernel_rfl
theorem Avv(A:Au disp)(hK:10000<K){d:Nat}(hd:16<=d){h:Aa}{m:Nat}{S:Mi}{F:Nat->Prop}(M:H4 h m S F)(hb:HB h){e:En}(w:e.Wf)(A2 Dm Ax seq:Int):
 Ok (Af TT disp K d false 131 [.ptr m 0,.agg e.cells,I A2,I Dm,I Ax,I seq] h) fun v h'=>v=I (S.put e A2 Dm Ax seq).2/\H4 h' m (S.put e A2 Dm Ax seq).1 F/\Kf F h h'/\HB h':=by
 obtain⟨dd,rfl⟩:∃ k,d=k+1:=⟨d-1,by omega⟩
 rw[Z9 A (by omega)]
 have w':({ e with Dm:=Dm }:En).Wf:=⟨w.len,w.u8⟩
 have el:=En.Cb w
 have el':=En.Cb w'
 obtain⟨_,D,p,bl,ql,np,q,c,G,a⟩:=M.s
 simp only[Vy,Ab]
 refine Ok.st1 (Ae _ _) rfl rfl (by show 5<e.cells.length;omega) ?_
 have x1:Ext h ((h.new (.cells e.cells 89)).put h.next (.cells (e.cells.set 5 (I Dm)) 89)):=(A4.new h _:Ext _ _).A8 (.inr (Nat.le_refl _)) (Nat.lt_succ_self _) _
 have g7:((h.new (.cells e.cells 89)).put h.next (.cells (e.cells.set 5 (I Dm)) 89)).get h.next=some (.cells (e.cells.set 5 (I Dm)) 89):=Aj _ _ _
 generalize (h.new (.cells e.cells 89)).put h.next (.cells (e.cells.set 5 (I Dm)) 89)=h1 at x1 g7 ⊢
 have g7:h1.get h.next=some (.cells ({ e with Dm:=Dm }:En).cells 89):=g7
 unfold Mi.put
 generalize ({ e with Dm:=Dm }:En)=e' at g7 w' el' ⊢
 have hb1:=x1.hb hb
 have l7:=hb1 _ _ g7
 have m1:=a.Kb.ext fun i o g=>x1.at hb g
 have lm:=hb1 _ _ m1.Kb
 rw[Aq l7 (by kernel_rfl),F4 g7 rfl,Av el']
 try simp only[Ab,Bo]
 rw[Aq lm (by kernel_rfl),m1.ou]
 try simp only[Bo]
 refine Ok.Cs (by kernel_rfl) (by kernel_rfl) (Acj (K:=K) w' (Hu hb1) hK A2 S.u Ax seq) (fun _ _ p=>p.2) ?_
 rintro _ h2' h2 ⟨rfl,_⟩ _ x2
 have hb2:=x2.hb hb1
 have fw:=Amv w' A2 S.u Ax seq
 generalize hfe:G2 e' A2 S.u Ax seq=fe at fw ⊢
 obtain⟨f,er⟩:=fe
 have fl:=Fr.Cb fw
 have zl:=Fr.Cb Fr.Ae6
 simp only[Ab,Aj8,Bo]
 rw[Rd (by kernel_rfl)]
 refine Ok.st f.cells (Ae _ _) rfl (by show Je f.cells=49;rw[Ch,fl]) (Cd (by rw[zl];exact fl.symm)) ?_
 have x3:Ext h2 ((h2.new (.cells Fr.zero.cells 120)).put h2.next (.cells f.cells 120)):=(A4.new h2 _:Ext _ _).A8 (.inr (Nat.le_refl _)) (Nat.lt_succ_self _) _
 have g13:((h2.new (.cells Fr.zero.cells 120)).put h2.next (.cells f.cells 120)).get h2.next=some (.cells f.cells 120):=Aj _ _ _
 generalize (h2.new (.cells Fr.zero.cells 120)).put h2.next (.cells f.cells 120)=h3 at x3 g13 ⊢
 have hb3:=x3.hb hb2
 have x03:Ext h h3:=(x1.trans x2).trans x3
 simp only[I,Ad]
 by_cases he:er=0
 ·subst he
  simp only[not_true_eq_false,decide_false,Ab,if_false,Rt]
  obtain⟨hf,hfr,_,_⟩:=An8 w' (A2:=A2) (off:=S.u) (Ax:=Ax) (seq:=seq) (by rw[hfe])
  rw[hfe]at hf
  have hf:f=_:=hf
  have hfB:frB f=true:=by rw[hf];exact hfr
  have m3:=a.Kb.ext fun i o g=>x03.at hb g
  have lm3:=hb3 _ _ m3.Kb
  have l13:=hb3 _ _ g13
  try simp only[Bo]
  rw[Aq lm3 (by kernel_rfl),m3.table]
  try simp only[Ab,Bo]
  rw[Aq l13 (by kernel_rfl),F4 g13 rfl,Av fl]
  try simp only[Ab,Bo]
  refine Ok.Cs (by kernel_rfl) (by kernel_rfl) (Ais (K:=K) fw hfB (Hu hb3) hK) (fun _ _ p=>p.2) ?_
  rintro _ h4' h4 ⟨rfl,_⟩ _ x4
  have hb4:=x4.hb hb3
  have ul:(E2 (Rq f)).length=64:=by rw[Ep,Aqt fw]
  try simp only[Ab,Bo]
  rw[Rd (by kernel_rfl)]
  refine Ok.st (E2 (Rq f)) (Ae _ _) rfl (by show Je (E2 (Rq f))=64;rw[Ch,ul]) (Cd (by rw[List.length_replicate];exact ul.symm)) ?_
  have x5:Ext h4 ((h4.new (.cells (List.replicate 64 (EV.int .u8 0)) 103)).put h4.next (.cells (E2 (Rq f)) 103)):=(A4.new h4 _:Ext _ _).A8 (.inr (Nat.le_refl _)) (Nat.lt_succ_self _) _
  have g15:((h4.new (.cells (List.replicate 64 (EV.int .u8 0)) 103)).put h4.next (.cells (E2 (Rq f)) 103)).get h4.next=some (.cells (E2 (Rq f)) 103):=Aj _ _ _
  generalize (h4.new (.cells (List.replicate 64 (EV.int .u8 0)) 103)).put h4.next (.cells (E2 (Rq f)) 103)=h5 at x5 g15 ⊢
  have hb5:=x5.hb hb4
  have x05:Ext h h5:=(x03.trans x4).trans x5
  have M5:=M.ext hb x05
  clear m3 m1 a
  obtain⟨_,D,p,bl,ql,np,q,c,G,a⟩:=M5.s
  have lm5:=hb5 _ _ a.Kb.Kb
  have l15:=hb5 _ _ g15
  simp only[R8,Ab,Ad,I,not_true_eq_false,decide_false,Bo]
  rw[Aq lm5 (by kernel_rfl),a.Kb.Ct]
  try simp only[Ab,Bo]
  rw[Aq l15 (by kernel_rfl),F4 g15 rfl,Av ul]
  try simp only[Ab,Bo]
  refine Ok.Amo (S:=G) (by kernel_rfl) (by kernel_rfl) (fun _=>by kernel_rfl) (Amf (K:=K) A (by omega) (d:=dd) (by omega) (fun k hk=>A1b A (by omega) S.dr k hk) a.drv.lift (Hu hb5) A2 ul ⟨_,A2t fw,rfl⟩) (fun _ _ p=>p.2.2.1) ?_
  rintro _ h6 h7 s' ⟨rfl,d6,_,hb6⟩ sm c7 _
  have hb7:=sm.hb hb6
  obtain⟨M7,k7⟩:=M5.drv hb5 a (d6.same sm) c7
  have k07:Kf F h h7:=x05.As7 k7
  have M7:=M7.less fun i (hi:F i)=>Or.inl hi
  generalize S.dr.append A2 (E2 (Rq f))=ap at M7 ⊢
  obtain⟨dr,off,er⟩:=ap
  obtain⟨_,D,p,bl,ql,np,q,c,G,a⟩:=M7.s
  simp only[Ab,I,Ad]
  by_cases h0:er=0
  ·simp only[h0,decide_true,Ab,a.Kb.ou,I,Ad,true_and]
   by_cases h1:off=S.u
   ·simp only[h1,not_true_eq_false,decide_false,Ab,Hn,Jq,if_false]
    exact .ret ⟨rfl,M7,k07,hb7⟩
   ·simp only[h1,not_false_eq_true,decide_true,Ab,Hn,Jq,if_true]
    exact .ret ⟨rfl,M7,k07,hb7⟩
  ·simp only[h0,decide_false,Ab,Hn,Jq,false_and,if_false]
   exact .ret ⟨rfl,M7,k07,hb7⟩
 ·simp only[he,not_false_eq_true,decide_true,Ab,if_true]
  exact .ret ⟨rfl,(M.ext hb x03).less fun i (hi:F i)=>Or.inl hi,x03.kf,hb3⟩
noncomputable def Mi.both(S:Mi)(e:En)(Ax seq:Int):Mi × Int × Int:=
 if ¬ (S.put e S.a S.b Ax seq).2=0 then ((S.put e S.a S.b Ax seq).1,S.a,(S.put e S.a S.b Ax seq).2) else
 (((S.put e S.a S.b Ax seq).1.put e S.b S.a Ax seq).1,S.b,((S.put e S.a S.b Ax seq).1.put e S.b S.a Ax seq).2)
theorem A0g(A:Au disp)(hK:10000<K){d:Nat}(hd:17<=d){h:Aa}{m:Nat}{S:Mi}{F:Nat->Prop}(M:H4 h m S F)(hb:HB h){e:En}(w:e.Wf)(Ax seq:Int):
 Ok (Af TT disp K d false 81 [.ptr m 0,.agg e.cells,I Ax,I seq] h) fun v h'=>v=.tuple [I (S.both e Ax seq).2.1,I (S.both e Ax seq).2.2]/\H4 h' m (S.both e Ax seq).1 F/\Kf F h h'/\HB h':=by
 obtain⟨dd,rfl⟩:∃ k,d=k+1:=⟨d-1,by omega⟩
 rw[Y4 A (by omega)]
 have el:=En.Cb w
 simp only[Ue,Ab]
 have x1:Ext h (h.new (.cells e.cells 89)):=A4.new _ _
 have g5:(h.new (.cells e.cells 89)).get h.next=some (.cells e.cells 89):=Ae _ _
 have n1:(h.new (.cells e.cells 89)).next=h.next+1:=rfl
 generalize h.new (.cells e.cells 89)=h1 at x1 g5 n1 ⊢
 have hb1:=x1.hb hb
 have M1:=M.ext hb x1
 obtain⟨_,D,p,bl,ql,np,q,c,G,a⟩:=M1.s
 rw[a.Kb.oa]
 try simp only[Ab]
 rw[a.Kb.ob,F4 g5 rfl,Av el]
 try simp only[Ab]
 refine(Avv A hK (by omega) M1 hb1 w S.a S.b Ax seq).Al ?_
 rintro _ h2 ⟨rfl,M2,k2,hb2⟩
 have k02:Kf F h h2:=x1.As7 k2
 have g5:=k2.at hb1 g5 (.inr ⟨Nat.le_refl _,by omega⟩)
 unfold Mi.both
 simp only[I,Ad]
 by_cases h0:(S.put e S.a S.b Ax seq).2=0
 ·simp only[h0,not_true_eq_false,decide_false,Ab,if_false,Qq]
  rw[F4 g5 rfl,Av el]
  try simp only[Ab]
  have M2:=M2.less fun i (hi:F i)=>Or.inl hi
  refine(Avv A hK (by omega) M2 hb2 w S.b S.a Ax seq).Al ?_
  rintro _ h3 ⟨rfl,M3,k3,hb3⟩
  exact .ret ⟨rfl,M3,k02.trans k3,hb3⟩
 ·simp only[h0,not_false_eq_true,decide_true,Ab,if_true]
  exact .ret ⟨rfl,M2.less fun i (hi:F i)=>Or.inl hi,k02,hb2⟩
end Go.Ev

namespace Go.Ev
open Go.Proofs
set_option maxRecDepth 100000
variable {K:Nat}{disp:Nat->Option FT}
theorem Awi(D:Nat)(g:Gm)(p bl n:Nat)(a b u u':Int):(Ro D g p bl n a b u).set 267 (I u')=Ro D g p bl n a b u':=by
 unfold Ro
 have hl:([EV.ptr D 0]++gL g++Bp).length=263:=by rw[List.length_append,X8];rfl
 rw[List.set_append_right _ _ (by omega),hl]
 rfl
noncomputable def Mi.Ti(S:Mi):Mi:={ S with u:=Cv .i64 (S.u+1) }
theorem Mi.Wf.Ti {S:Mi}(w:S.Wf):S.Ti.Wf:={ toWp:=⟨w.sm,w.ps⟩,op:=w.op }
theorem Anv {h:Aa}{m:Nat}{S:Mi}{F:Nat->Prop}(M:H4 h m S F)(hb:HB h){kk:Aa->R}{Q:EV->Aa->Prop}(hk:∀ h',H4 h' m S.Ti F->Kf F h h'->HB h'->Ext h h'\/True->h'.next=h.next->(∀ i,F i->h'.get i=h.get i)->Ok (kk h') Q):
 Ok (Am (.ptr m 267) h fun v=>Ap Ip (bin TT .add 3) v (.int .i64 1) fun w=>Jf 1 (.ptr m 267) w h kk) Q:=by
 obtain⟨lt,D,p,bl,ql,np,q,c,G,a⟩:=M.s
 rw[a.Kb.ou]
 simp only[I,Ad]
 have ml:=Akz D S.g p bl (S.g.D*S.g.Z).toNat S.a S.b S.u
 have lm:=hb _ _ a.Kb.Kb
 refine Ok.st1 a.Kb.Kb rfl rfl (by omega) ?_
 rw[show EV.int .i64 (Cv .i64 (S.u+1))=I (Cv .i64 (S.u+1)) from rfl,Awi]
 have c1:A4 (fun i=>i=m) h (h.put m (.cells (Ro D S.g p bl (S.g.D*S.g.Z).toNat S.a S.b (Cv .i64 (S.u+1))) 149)):=(A4.refl (S:=fun i=>i=m) h).A8 (.inl rfl) lm _
 have a1:=a.Aos hb (Aj _ _ _) c1
 have hF:∀ i,F i->i ≠ m:=fun i hi y=>by subst y;exact a.sub.2.1.2 hi
 refine hk _ ⟨⟨fun i hi=>hi.1,D,p,bl,ql,np,q,c,G,?_⟩,fun i hi=>M.lt i hi,M.wf.Ti⟩ (c1.mono fun i hi y=>hF i y hi) (hb.put lm _) (.inr trivial) rfl (fun i hi=>Ar _ (Ne.symm (hF i hi)))
 exact a1
noncomputable def Mi.Gp(B:Mi × Int × Int):Mi:=if B.2.1=B.1.b then B.1.Ti else B.1
def Me.zero:Me:=⟨0,0,0,0,0,0⟩
noncomputable def Mi.Iw(e:En)(Ax seq:Int):Nat->Mi->Mi × Me × Int
 | 0,S=>(S,Me.zero,0)
 | n+1,S=>
  if ¬ S.ready.2=0 then (S.ready.1,Me.zero,S.ready.2) else
  if (S.ready.1.both e Ax seq).2.2=0 then ((S.ready.1.both e Ax seq).1.Ti,⟨1,(S.ready.1.both e Ax seq).1.a,(S.ready.1.both e Ax seq).1.b,(S.ready.1.both e Ax seq).1.u,seq,Fm e.bytes⟩,0) else
  if (S.ready.1.both e Ax seq).2.2=34 then ((S.ready.1.both e Ax seq).1,Me.zero,34) else
  if ((Mi.Gp (S.ready.1.both e Ax seq)).Bl (S.ready.1.both e Ax seq).2.1).2=34 then (((Mi.Gp (S.ready.1.both e Ax seq)).Bl (S.ready.1.both e Ax seq).2.1).1,Me.zero,34) else
  Iw e Ax seq n ((Mi.Gp (S.ready.1.both e Ax seq)).Bl (S.ready.1.both e Ax seq).2.1).1
noncomputable def Mi.place(S:Mi)(e:En)(Ax seq:Int):Mi × Me × Int:=
 if ¬ (G2 e 0 0 Ax seq).2=0 then (S,Me.zero,(G2 e 0 0 Ax seq).2) else Mi.Iw e Ax seq 1000 S
noncomputable def Afi(bad:Nat->Int)(n:Nat):Nat:=((List.range n).filter fun i=>¬ bad i=1).length
theorem Ar8(bad:Nat->Int)(n:Nat):Afi bad n<=n:=by
 unfold Afi
 have:=List.length_filter_le (fun i=>decide (¬ bad i=1)) (List.range n)
 simpa using this
theorem Asc(bad:Nat->Int){n z:Nat}(hz:z<n)(hb:¬ bad z=1):Afi (fun i=>if i=z then 1 else bad i) n<Afi bad n:=by
 unfold Afi
 induction n with
 | zero=>omega
 | succ n ih=>
  rw[List.range_succ,List.filter_append,List.filter_append,List.length_append,List.length_append]
  by_cases h:z=n
  ·subst h
   have e1:((List.range z).filter fun i=>decide (¬ (if i=z then (1:Int) else bad i)=1))=(List.range z).filter fun i=>decide (¬ bad i=1):=by
    refine List.filter_congr fun i hi=>?_
    have:=List.mem_range.1 hi
    rw[if_neg (by omega)]
   have e2:([z].filter fun i=>decide (¬ (if i=z then (1:Int) else bad i)=1)) = []:=by simp
   have e3:([z].filter fun i=>decide (¬ bad i=1)) = [z]:=by simp[hb]
   rw[e1,e2,e3];simp
  ·have:=ih (by omega)
   have e2:([n].filter fun i=>decide (¬ (if i=z then (1:Int) else bad i)=1)) = [n].filter fun i=>decide (¬ bad i=1):=by
    have:¬ n=z:=fun y=>h y.symm
    rw[List.filter_cons,List.filter_cons];simp[this]
   rw[e2];omega
theorem Aum(S:Mi):S.ready.1.g=S.g/\S.ready.1.bad=S.bad:=by
 unfold Mi.ready
 split
 ·exact⟨rfl,rfl⟩
 ·split
  ·exact⟨rfl,rfl⟩
  ·split <;> exact⟨rfl,rfl⟩
theorem A39(S:Mi)(e:En)(A2 Dm Ax seq:Int):(S.put e A2 Dm Ax seq).1.g=S.g/\(S.put e A2 Dm Ax seq).1.bad=S.bad/\(S.put e A2 Dm Ax seq).1.a=S.a/\(S.put e A2 Dm Ax seq).1.b=S.b/\(S.put e A2 Dm Ax seq).1.u=S.u/\(S.put e A2 Dm Ax seq).1.ps=S.ps:=by
 unfold Mi.put;split <;> exact⟨rfl,rfl,rfl,rfl,rfl,rfl⟩
theorem A03(S:Mi)(e:En)(Ax seq:Int):(S.both e Ax seq).1.g=S.g/\(S.both e Ax seq).1.bad=S.bad/\(S.both e Ax seq).1.a=S.a/\(S.both e Ax seq).1.b=S.b/\(S.both e Ax seq).1.u=S.u/\(S.both e Ax seq).1.ps=S.ps /\
 ((S.both e Ax seq).2.1=S.a\/(S.both e Ax seq).2.1=S.b):=by
 unfold Mi.both
 obtain⟨a1,a2,a3,a4,a5,a6⟩:=A39 S e S.a S.b Ax seq
 obtain⟨b1,b2,b3,b4,b5,b6⟩:=A39 (S.put e S.a S.b Ax seq).1 e S.b S.a Ax seq
 split
 ·exact⟨a1,a2,a3,a4,a5,a6,.inl rfl⟩
 ·exact⟨b1.trans a1,b2.trans a2,b3.trans a3,b4.trans a4,b5.trans a5,b6.trans a6,.inr rfl⟩
theorem Avr(B:Mi × Int × Int):(Mi.Gp B).g=B.1.g/\(Mi.Gp B).bad=B.1.bad/\(Mi.Gp B).a=B.1.a/\(Mi.Gp B).b=B.1.b:=by
 unfold Mi.Gp;split <;> exact⟨rfl,rfl,rfl,rfl⟩
theorem Afh(S:Mi)(z:Int):(S.Bl z).1.g=S.g:=by
 unfold Mi.Bl
 split
 ·rfl
 ·split
  ·rfl
  ·split
   ·rfl
   ·exact(Ao2 _).1
theorem Zw {S:Mi}(w:S.Wf){z:Int}(hz:0<=De S.g z)(hb:¬ S.bad z.toNat=1):Afi (S.Bl z).1.bad (S.g.D*S.g.Z).toNat<Afi S.bad (S.g.D*S.g.Z).toNat:=by
 have hbad:(S.Bl z).1.bad=fun i=>if i=z.toNat then 1 else S.bad i:=by
  unfold Mi.Bl
  rw[if_neg (by omega),if_neg (by unfold Mi.Uj;rw[decide_eq_false hb,Bool.and_false];simp)]
  split
  ·rfl
  ·exact(Ao2 _).2.2.2.2
 rw[hbad]
 refine Asc S.bad ?_ hb
 rcases Wg w.sm z with y|⟨_,_,_,y1,y2⟩ <;> omega
theorem Aka {S:Mi}(w:S.Wf)(h:S.ready.2=0):(0<=De S.ready.1.g S.ready.1.a/\¬ S.ready.1.bad S.ready.1.a.toNat=1)/\(0<=De S.ready.1.g S.ready.1.b/\¬ S.ready.1.bad S.ready.1.b.toNat=1):=by
 rcases w.ready.op with ⟨y,_⟩|y
 ·exfalso
  revert h y
  unfold Mi.ready
  split
  ·rename_i h0;intro _ y;exact h0.1 y
  ·split
   ·rename_i hf;intro y _;exact hf y
   ·cases hp:Adk S.ps S.g.D.toNat with
    | none=>intro y _;simp at y
    | some t=>
     obtain⟨x,y,ps'⟩:=t
     obtain⟨a,b,_,_,_,_,_,_,_,_,dx,_⟩:=Agw w.ps hp
     intro _ hx
     have hx:x = -1:=hx
     have:=T2 w.sm (z:=x) (by rw[dx.1];omega)
     omega
 ·exact y
theorem A3a:TT.size 83=some 6/\TT.agg 83=some true:=⟨by kernel_rfl,by kernel_rfl⟩
theorem Ati(A:Au disp)(hK:10000<K){d:Nat}(hd:19<=d){e:En}(w:e.Wf)(Ax seq:Int){m b5 b8:Nat}:∀ (n f:Nat) (h:Aa) (S:Mi) (F:Nat->Prop),Afi S.bad (S.g.D*S.g.Z).toNat<n->n<=f->H4 h m S F->HB h->F b5->F b8->b5 ≠ b8 ->
 h.get b5=some (.cells e.cells 89)->h.get b8=some (.cells Me.zero.cells 83) ->
 Ok (B7 (Af TT disp K d false) (Af TT disp K d true) K f (.ptr m 0) (I Ax) (I seq) (.ptr b5 0) (.ptr b8 0) h) fun v h'=>v=.tuple [.agg (Mi.Iw e Ax seq n S).2.1.cells,I (Mi.Iw e Ax seq n S).2.2]/\H4 h' m (Mi.Iw e Ax seq n S).1 (fun i=>F i/\¬ i=b8)/\Kf (fun i=>F i/\¬ i=b8) h h'/\HB h':=by
 intro n
 induction n with
 | zero=>intro f h S F hg;omega
 | succ n ih=>
  intro f h S F hg hf M hb f5 f8 n58 g5 g8
  obtain⟨f,rfl⟩:∃ k,f=k+1:=⟨f-1,by omega⟩
  have el:=En.Cb w
  have sub:∀ i,(F i/\¬ i=b8)->F i:=fun i hi=>hi.1
  have fin:∀ (me:Me) (er:Int) (h5:Aa) (S5:Mi),H4 h5 m S5 F->Kf F h h5->HB h5->(S5,me,er)=Mi.Iw e Ax seq (n+1) S ->
   Ok (Jf 6 (.ptr b8 0) (.agg me.cells) h5 fun h=>H3 TT [.c (.ptr b8 0) 83,.v (I er)] h) fun v h'=>v=.tuple [.agg (Mi.Iw e Ax seq (n+1) S).2.1.cells,I (Mi.Iw e Ax seq (n+1) S).2.2]/\H4 h' m (Mi.Iw e Ax seq (n+1) S).1 (fun i=>F i/\¬ i=b8)/\Kf (fun i=>F i/\¬ i=b8) h h'/\HB h':=by
   intro me er h5 S5 M5 k5 hb5 he
   have g85:=k5.at hb g8 f8
   have l8:=hb5 _ _ g85
   refine Ok.st me.cells g85 rfl rfl (Cd rfl) ?_
   rw[U5 (Aj _ _ _) A3a.1 A3a.2 rfl,<-he]
   have c8:A4 (fun i=>i=b8) h5 (h5.put b8 (.cells me.cells 83)):=(A4.refl (S:=fun i=>i=b8) h5).A8 (.inl rfl) l8 _
   exact .ret ⟨rfl,(M5.Atb c8 fun i hi _=>hi ▸ f8).less sub,(k5.less sub).trans (c8.mono fun i hi y=>y.2 hi),hb5.put l8 _⟩
  unfold Mi.Iw at fin ⊢
  simp only[B7]
  refine(Aw3 A hK M hb (by omega)).Al ?_
  rintro _ h1 ⟨rfl,M1,k1,hb1⟩
  simp only[I,Ad]
  by_cases hr:S.ready.2=0
  ·rw[if_neg (show ¬ ¬ S.ready.2=0 from fun y=>y hr)]at fin ⊢
   have op:=Aka M.wf hr
   have hgr:=(Aum S)
   simp only[hr,not_true_eq_false,decide_false,Ab,Pp]
   have g51:=k1.at hb g5 f5
   rw[F4 g51 rfl,Av el]
   try simp only[Ab]
   refine(A0g A hK (by omega) M1 hb1 w Ax seq).Al ?_
   rintro _ h2 ⟨rfl,M2,k2,hb2⟩
   have k02:Kf F h h2:=k1.trans k2
   have hbg:=A03 S.ready.1 e Ax seq
   generalize hB:S.ready.1.both e Ax seq=B at M2 fin hbg ⊢
   obtain⟨T,z,er⟩:=B
   simp only at M2 fin hbg ⊢
   have hnm:z ≠ z->False:=fun y=>y rfl
   simp only[Ab,I,Ad]
   by_cases h0:er=0
   ·rw[if_pos h0]at fin ⊢
    simp only[h0,decide_true,Ab,Bo]
    obtain⟨lt2,D,p,bl,ql,np,q,c,G,a⟩:=M2.s
    have lm:=hb2 _ _ a.Kb.Kb
    have g52:=k02.at hb g5 f5
    rw[Aq lm (by kernel_rfl),a.Kb.oa]
    try simp only[Ab,Bo]
    rw[Aq lm (by kernel_rfl),a.Kb.ob]
    try simp only[Ab,Bo]
    rw[Aq lm (by kernel_rfl),a.Kb.ou]
    try simp only[Ab,Bo]
    rw[Aq lm (by kernel_rfl),a.Kb.table]
    try simp only[Ab,Bo]
    rw[show ∀ k:EV->R,Us 32 1 (.ptr b5 6) none none none k=k (.slice b5 6 32 32 false) from fun k=>rfl]
    try simp only[Ab,Bo]
    have bs:Bs h2.lift (.slice b5 6 32 32 false) b5 6 e.bytes:=by
     refine⟨32,false,_,e.cells,by rw[w.len],by rw[w.len];omega,by rw[Dg];exact g52,rfl,by rw[el,w.len];exact Nat.le_refl _,?_⟩
     unfold En.cells
     rw[w.len]
     show (E2 e.bytes).take 32=_
     rw[List.take_of_length_le (by rw[Ep,w.len];omega)]
    refine Ok.Cs (by kernel_rfl) (by kernel_rfl) (Az9 (K:=K) hK bs (Hu hb2) w.u8 (by rw[w.len];omega)) (fun _ _ p=>p.2) ?_
    rintro _ h3' h3 ⟨rfl,_⟩ _ x3
    have hb3:=x3.hb hb2
    have hsl:=A0j w.u8
    simp only[Nk,Ab]
    rw[show Cv .i64 (Int.ofNat (Fm e.bytes))=(Fm e.bytes:Int) from C6 (by show -9223372036854775808<=((Fm e.bytes:Nat):Int);omega) (by show ((Fm e.bytes:Nat):Int)<=_;omega)]
    rw[Cu (l:=(⟨1,T.a,T.b,T.u,seq,Fm e.bytes⟩:Me).cells) rfl]
    try simp only[Ab,Bo]
    rw[Rd (by kernel_rfl)]
    refine Ok.st (⟨1,T.a,T.b,T.u,seq,Fm e.bytes⟩:Me).cells (Ae _ _) rfl rfl (Cd rfl) ?_
    have x4:Ext h3 ((h3.new (.cells [EV.int .i64 0,.int .i64 0,.int .i64 0,.int .i64 0,.int .i64 0,.int .i64 0] 83)).put h3.next (.cells (⟨1,T.a,T.b,T.u,seq,Fm e.bytes⟩:Me).cells 83)):=(A4.new h3 _:Ext _ _).A8 (.inr (Nat.le_refl _)) (Nat.lt_succ_self _) _
    have g15:((h3.new (.cells [EV.int .i64 0,.int .i64 0,.int .i64 0,.int .i64 0,.int .i64 0,.int .i64 0] 83)).put h3.next (.cells (⟨1,T.a,T.b,T.u,seq,Fm e.bytes⟩:Me).cells 83)).get h3.next=some (.cells (⟨1,T.a,T.b,T.u,seq,Fm e.bytes⟩:Me).cells 83):=Aj _ _ _
    have n4:((h3.new (.cells [EV.int .i64 0,.int .i64 0,.int .i64 0,.int .i64 0,.int .i64 0,.int .i64 0] 83)).put h3.next (.cells (⟨1,T.a,T.b,T.u,seq,Fm e.bytes⟩:Me).cells 83)).next=h3.next+1:=rfl
    generalize (h3.new (.cells [EV.int .i64 0,.int .i64 0,.int .i64 0,.int .i64 0,.int .i64 0,.int .i64 0] 83)).put h3.next (.cells (⟨1,T.a,T.b,T.u,seq,Fm e.bytes⟩:Me).cells 83)=h4 at x4 g15 n4 ⊢
    have hb4:=x4.hb hb3
    have x24:Ext h2 h4:=x3.trans x4
    have M4:=M2.ext hb2 x24
    refine Anv M4 hb4 ?_
    intro h5 M5 k5 hb5 _ n5 e5
    have F15:Bc F h2 h4 h3.next:=.inr ⟨x3.next,by omega⟩
    rw[F4 (by rw[e5 _ F15];exact g15) rfl,Av (n:=6) rfl]
    try simp only[Ab]
    refine fin _ _ h5 T.Ti (M5.less fun i (hi:F i)=>Or.inl hi) (k02.trans (x24.As7 k5)) hb5 rfl
   ·rw[if_neg h0]at fin ⊢
    simp only[h0,decide_false,Ab,Ad]
    by_cases h34:er=34
    ·rw[if_pos h34]at fin ⊢
     simp only[h34,decide_true,Ab]
     rw[Cu (l:=Me.zero.cells) rfl]
     exact fin _ _ h2 T M2 k02 hb2 rfl
    ·rw[if_neg h34]at fin ⊢
     simp only[h34,decide_false,Ab,P9]
     obtain⟨lt2,D,p,bl,ql,np,q,c,G,a⟩:=M2.s
     rw[a.Kb.ob]
     simp only[I,Ad]
     have hz:0<=De T.g z/\¬ T.bad z.toNat=1:=by
      obtain⟨e1,e2,e3,e4,_,_,e5⟩:=hbg
      rw[e1,e2]
      rcases e5 with e5|e5
      ·rw[e5];exact op.1
      ·rw[e5];exact op.2
     have go:∀ (h3:Aa),H4 h3 m (Mi.Gp (T,z,er)) F->Kf F h h3->HB h3 ->
      Ok (Ig (Af TT disp K d false) (Af TT disp K d true) K (B7 (Af TT disp K d false) (Af TT disp K d true) K f) (.ptr m 0) (I Ax) (I seq) (.ptr b5 0) (.ptr b8 0) (I z) h3) fun v h'=>
       v=.tuple [.agg (if ((Mi.Gp (T,z,er)).Bl z).2=34 then (((Mi.Gp (T,z,er)).Bl z).1,Me.zero,(34:Int)) else Mi.Iw e Ax seq n ((Mi.Gp (T,z,er)).Bl z).1).2.1.cells,I (if ((Mi.Gp (T,z,er)).Bl z).2=34 then (((Mi.Gp (T,z,er)).Bl z).1,Me.zero,(34:Int)) else Mi.Iw e Ax seq n ((Mi.Gp (T,z,er)).Bl z).1).2.2] /\
        H4 h' m (if ((Mi.Gp (T,z,er)).Bl z).2=34 then (((Mi.Gp (T,z,er)).Bl z).1,Me.zero,(34:Int)) else Mi.Iw e Ax seq n ((Mi.Gp (T,z,er)).Bl z).1).1 (fun i=>F i/\¬ i=b8)/\Kf (fun i=>F i/\¬ i=b8) h h'/\HB h':=by
      intro h3 M3 k3 hb3
      obtain⟨u1,u2,u3,u4⟩:=Avr (T,z,er)
      simp only at u1 u2 u3 u4
      have hz':0<=De (Mi.Gp (T,z,er)).g z/\¬ (Mi.Gp (T,z,er)).bad z.toNat=1:=by rw[u1,u2];exact hz
      have less:=Zw M3.wf hz'.1 hz'.2
      have qg:=Afh (Mi.Gp (T,z,er)) z
      simp only[Ig]
      refine(Ali A hK M3 hb3 (by omega) (Abu M3.wf.sm hz'.1)).Al ?_
      rintro _ h4 ⟨rfl,M4,k4,hb4⟩
      have k04:Kf F h h4:=k3.trans k4
      simp only[I,Ad]
      by_cases hq:((Mi.Gp (T,z,er)).Bl z).2=34
      ·rw[if_pos hq]at fin ⊢
       simp only[hq,decide_true,Ab]
       rw[Cu (l:=Me.zero.cells) rfl]
       exact fin _ _ h4 _ M4 k04 hb4 rfl
      ·rw[if_neg hq]
       simp only[hq,decide_false,Ab]
       have g54:=k04.at hb g5 f5
       have g84:=k04.at hb g8 f8
       refine(ih f h4 _ F ?_ (by omega) M4 hb4 f5 f8 n58 g54 g84).mono ?_
       ·rw[qg]
        have e1:(Mi.Gp (T,z,er)).g=S.g:=by rw[u1,hbg.1,hgr.1]
        have e2:(Mi.Gp (T,z,er)).bad=S.bad:=by rw[u2,hbg.2.1,hgr.2]
        rw[e1,e2]at less
        rw[e1];omega
       ·rintro v h5 ⟨ev,M5,k5,hb5⟩
        exact⟨ev,M5,(k04.less sub).trans k5,hb5⟩
     by_cases hzb:z=T.b
     ·simp only[hzb,decide_true,Ab]
      refine Anv M2 hb2 ?_
      intro h3 M3 k3 hb3 _ _ _
      have:=go h3 (by unfold Mi.Gp;rw[if_pos hzb];exact M3) (k02.trans k3) hb3
      rw[hzb]at this
      exact this
     ·simp only[hzb,decide_false,Ab]
      exact go h2 (by unfold Mi.Gp;rw[if_neg hzb];exact M2) k02 hb2
  ·rw[if_pos hr]at fin ⊢
   simp only[hr,not_false_eq_true,decide_true,Ab]
   rw[Cu (l:=Me.zero.cells) rfl]
   exact fin _ _ h1 _ M1 k1 hb1 rfl
theorem Av4(A:Au disp)(hK:10000<K){d:Nat}(hd:20<=d){h:Aa}{m:Nat}{S:Mi}{F:Nat->Prop}(M:H4 h m S F)(hb:HB h){e:En}(w:e.Wf)(Ax seq:Int):
 Ok (Af TT disp K d false 34 [.ptr m 0,.agg e.cells,I Ax,I seq] h) fun v h'=>v=.tuple [.agg (S.place e Ax seq).2.1.cells,I (S.place e Ax seq).2.2]/\H4 h' m (S.place e Ax seq).1 F/\Kf F h h'/\HB h':=by
 obtain⟨dd,rfl⟩:∃ k,d=k+1:=⟨d-1,by omega⟩
 rw[X0 A (by omega)]
 have el:=En.Cb w
 simp only[S7,Ab]
 rw[show (h.new (.cells e.cells 89)).next=h.next+1 from rfl]
 have x1:Ext h ((h.new (.cells e.cells 89)).new (.cells Me.zero.cells 83)):=(A4.new _ _).Hy _
 have g5:((h.new (.cells e.cells 89)).new (.cells Me.zero.cells 83)).get h.next=some (.cells e.cells 89):=by
  rw[Bm _ (Nat.lt_succ_self _)];exact Ae _ _
 have g8:((h.new (.cells e.cells 89)).new (.cells Me.zero.cells 83)).get (h.next+1)=some (.cells Me.zero.cells 83):=Ae _ _
 have n1:((h.new (.cells e.cells 89)).new (.cells Me.zero.cells 83)).next=h.next+2:=rfl
 rw[show (Cn.cells [EV.int .i64 0,.int .i64 0,.int .i64 0,.int .i64 0,.int .i64 0,.int .i64 0] 83)=.cells Me.zero.cells 83 from rfl]
 generalize (h.new (.cells e.cells 89)).new (.cells Me.zero.cells 83)=h1 at x1 g5 g8 n1 ⊢
 have hb1:=x1.hb hb
 rw[F4 g5 rfl,Av el]
 try simp only[Ab]
 refine(Acj (K:=K) w hb1 hK 0 0 Ax seq).Al ?_
 rintro _ h2 ⟨rfl,x2⟩
 have hb2:=x2.hb hb1
 have fw:=Amv w 0 0 Ax seq
 unfold Mi.place
 generalize G2 e 0 0 Ax seq=fe at fw ⊢
 obtain⟨f,er⟩:=fe
 have fl:=Fr.Cb fw
 have zl:=Fr.Cb Fr.Ae6
 simp only[Ab,Aj8]
 refine Ok.st f.cells (Ae _ _) rfl (by show Je f.cells=49;rw[Ch,fl]) (Cd (by rw[zl];exact fl.symm)) ?_
 have x3:Ext h2 ((h2.new (.cells Fr.zero.cells 120)).put h2.next (.cells f.cells 120)):=(A4.new h2 _:Ext _ _).A8 (.inr (Nat.le_refl _)) (Nat.lt_succ_self _) _
 generalize (h2.new (.cells Fr.zero.cells 120)).put h2.next (.cells f.cells 120)=h3 at x3 ⊢
 have hb3:=x3.hb hb2
 have x03:Ext h h3:=(x1.trans x2).trans x3
 have x13:Ext h1 h3:=x2.trans x3
 have M3:=M.ext hb x03
 have g5:=x13.at hb1 g5
 have g8:=x13.at hb1 g8
 have ln:h.next+2<=h3.next:=by have:=x13.next;omega
 simp only[I,Ad]
 by_cases he:er=0
 ·subst he
  simp only[not_true_eq_false,decide_false,Ab,if_false,Qj]
  have gl:=Ar8 S.bad (S.g.D*S.g.Z).toNat
  have:(S.g.D*S.g.Z).toNat<=512:=by
   have h1:=M.wf.sm.d1;have h2:=M.wf.sm.z1;have h3:=M.wf.sm.d0;have h4:=M.wf.sm.z0
   obtain⟨m0,m1⟩:=Un (a:=S.g.D) (b:=S.g.Z) (A:=8) (B:=64) (by omega) (by omega) (by omega) (by omega)
   omega
  refine(Ati A hK (by omega) w Ax seq 1000 K h3 S (Bc F h h3) (by omega) (by omega) M3 hb3 (.inr ⟨by omega,by omega⟩) (.inr ⟨by omega,by omega⟩) (by omega) g5 g8).mono ?_
  rintro v h4 ⟨ev,M4,k4,hb4⟩
  refine⟨ev,M4.less fun i (hi:F i)=>⟨.inl hi,fun y=>by have:=M.lt i hi;omega⟩,?_,hb4⟩
  exact A4.then (S:=fun i=>¬ F i) (Ext.to x03) k4 fun i y hl z=>y ⟨.inl z,fun y=>by have:=M.lt i z;omega⟩
 ·simp only[he,not_false_eq_true,decide_true,Ab,if_true]
  rw[Cu (l:=Me.zero.cells) rfl]
  refine Ok.st Me.zero.cells g8 rfl rfl (Cd rfl) ?_
  rw[U5 (Aj _ _ _) A3a.1 A3a.2 rfl]
  have l8:=hb3 _ _ g8
  have x4:Ext h (h3.put (h.next+1) (.cells Me.zero.cells 83)):=x03.A8 (.inr (by omega)) l8 _
  exact .ret ⟨rfl,(M.ext hb x4).less fun i (hi:F i)=>Or.inl hi,x4.kf,hb3.put l8 _⟩
end Go.Ev
