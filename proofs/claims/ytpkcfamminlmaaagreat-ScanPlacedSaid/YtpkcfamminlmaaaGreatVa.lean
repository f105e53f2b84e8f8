import Derived.Test.YtpkcfamminlmaaaGreatZa
import Derived.Test.YtpkcfamminlmaaaGreatXc
set_option linter.unusedVariables false
set_option linter.unusedSimpArgs false
set_option linter.unusedSectionVars false
namespace Go.Ev
open Go.Proofs
set_option maxRecDepth 100000
variable {K:Nat}{disp:Nat->Option FT}
theorem Akh {x y:List EV}(hx:x.length=64)(hy:y.length=64):(Rf x y).length=64:=by unfold Rf;rw[List.length_zipWith,hx,hy];rfl
theorem U8.at {x:List EV}(u:U8 x){i:Nat}(hi:i<x.length):∃ a:Nat,a<256/\x[i]=.int .u8 (Int.ofNat a):=by
 obtain⟨l,hl,rfl⟩:=u
 rw[Cu]at hi
 exact⟨l[i],hl _ (List.getElem_mem _),by simp[Dl]⟩
theorem U8.xor {x y:List EV}(ux:U8 x)(uy:U8 y):U8 (Rf x y):=by
 obtain⟨a,ha,rfl⟩:=ux
 obtain⟨b,hb,rfl⟩:=uy
 refine⟨List.zipWith Nat.xor a b,fun c hc=>?_,?_⟩
 ·obtain⟨i,hi,rfl⟩:=List.getElem_of_mem hc
  rw[List.getElem_zipWith]
  rw[List.length_zipWith]at hi
  exact Nat.xor_lt_two_pow (n:=8) (ha _ (List.getElem_mem _)) (hb _ (List.getElem_mem _))
 ·unfold Rf Dl
  rw[List.zipWith_map,List.map_zipWith]
  rfl
theorem A9h {h0:Aa}{b2 b3 b4:Nat}{x y:List EV}(hx:x.length=64)(hy:y.length=64)(ux:U8 x)(uy:U8 y)(l2:h0.next<=b2)(l3:b2<b3)(l4:b3<b4):∀ (m i:Nat) (h:Aa) (l:List EV),64-i<m->i<=64->HB h->Ext h0 h ->
 h.get b2=some (.cells l 103)->l.length=64->(∀ j,j<64->l[j]? = if j<i then (Rf x y)[j]? else x[j]?)->h.get b3=some (.cells y 103)->h.get b4=some (.cells Pu 103) ->
 Ok (Ez K m (.ptr b2 0) (.ptr b3 0) (.ptr b4 0) (.int .i64 (i:Int)) h) fun v h'=>v=.agg (Rf x y)/\Ext h0 h'/\HB h':=by
 intro m
 induction m with
 | zero=>intro i h l hm;omega
 | succ m ih=>
  intro i h l hm hi hb c g2 hl hj g3 g4
  have lt2:=hb _ _ g2
  have lt3:=hb _ _ g3
  have lt4:=hb _ _ g4
  simp only[Ez,Ai]
  by_cases hlt:i<64
  ·rw[decide_eq_true (show (i:Int)<64 by omega)]
   obtain⟨a,ha,ea⟩:=ux.at (i:=i) (by omega)
   obtain⟨b,hb',eb⟩:=uy.at (i:=i) (by omega)
   have e2:l[i]? = some (.int .u8 (Int.ofNat a)):=by rw[hj i hlt,if_neg (Nat.lt_irrefl _),List.getElem?_eq_getElem (by omega),ea]
   have e3:y[i]? = some (.int .u8 (Int.ofNat b)):=by rw[List.getElem?_eq_getElem (by omega),eb]
   have ex:(Rf x y)[i]? = some (Nk .u8 (a ^^^ b)):=by
    unfold Rf
    rw[List.getElem?_zipWith,List.getElem?_eq_getElem (show i<x.length by omega),ea,e3];rfl
   simp only[Ab,Wj,A2q hlt,Nat.zero_add,Nat.mul_one]
   rw[A4 lt2 (by kernel_rfl),C3 g2 rfl e2,A4 lt3 (by kernel_rfl),C3 g3 rfl e3,A9k ha hb',O4 (by kernel_rfl)]
   refine Ok.st1 g2 rfl rfl (by omega) ?_
   simp only[V0,Ai]
   rw[C8 (by omega) (by omega)]
   refine ih (i+1) _ (l.set i (Nk .u8 (a ^^^ b))) (by omega) (by omega) (hb.put lt2 _) (c.A5 (.inr l2) lt2 _) (Aj _ _ _) (by rw[List.length_set];exact hl) (fun j hj'=>?_) ?_ ?_
   ·rw[List.getElem?_set]
    by_cases hji:i=j
    ·subst hji;rw[if_pos rfl,if_pos (by omega),if_pos (by omega),ex]
    ·rw[if_neg hji,hj j hj']
     by_cases h1:j<i
     ·rw[if_pos h1,if_pos (by omega)]
     ·rw[if_neg h1,if_neg (by omega)]
   ·rw[As _ (by omega)];exact g3
   ·rw[As _ (by omega)];exact g4
  ·have:i=64:=by omega
   subst this
   have el:l=Rf x y:=by
    refine List.ext_getElem? fun j=>?_
    by_cases h1:j<64
    ·rw[hj j h1,if_pos h1]
    ·rw[List.getElem?_eq_none (by omega),List.getElem?_eq_none (by rw[Akh hx hy];omega)]
   subst el
   simp only[show ¬ ((64:Nat):Int)<64 by omega,decide_false,Ab,Pt]
   rw[Fy g2 rfl,A3 hl]
   simp only[Ab]
   refine Ok.st (Rf x y) g4 rfl (by show Jh (Rf x y)=64;rw[B8,hl]) (Cb (by rw[I6];exact hl.symm)) ?_
   rw[Xk (Aj _ _ _) Adg.1 Adg.2 hl]
   exact .ret ⟨rfl,c.A5 (.inr (by omega)) lt4 _,hb.put lt4 _⟩
theorem A6k {h:Aa}{x y:List EV}(hx:x.length=64)(hy:y.length=64)(ux:U8 x)(uy:U8 y)(hb:HB h)(hK:100<K):
 Ok (Lp K (.agg x) (.agg y) h) fun v h'=>v=.agg (Rf x y)/\Ext h h'/\HB h':=by
 simp only[Lp,Ab]
 have x1:Ext h (((h.new (.cells x 103)).new (.cells y 103)).new (.cells (List.replicate 64 (.int .u8 0)) 103)):=((A9.new _ _).Fp _).Fp _
 refine A9h (h0:=h) (x:=x) (y:=y) hx hy ux uy (b2:=h.next) (b3:=h.next+1) (b4:=h.next+2) (Nat.le_refl _) (by omega) (by omega) K 0 _ x (by omega) (by omega) (x1.hb hb) x1 ?_ hx (fun j _=>by rw[if_neg (Nat.not_lt_zero _)]) ?_ (Ag _ _)
 ·rw[Bd _ (by show h.next<h.next+1+1;omega),Bd _ (by show h.next<h.next+1;omega)];exact Ag _ _
 ·rw[Bd _ (by show h.next+1<h.next+1+1;omega)];exact Ag _ _
theorem A28(A:Aq disp){e:Nat}(he:2<=e){h:Aa}{b:Nat}{x p:List EV}(hg:h.get b=some (.cells p 103))(hx:x.length=64)(hp:p.length=64)(ux:U8 x)(up:U8 p)(hb:HB h)(hK:100<K):
 Ok (U3 (Ad TT disp K e false) (Ad TT disp K e true) (.func 239 [] [.ptr b 0]) [.agg x] h) fun v h'=>v=.agg (Rf x p)/\Ext h h'/\HB h':=by
 obtain⟨d,rfl⟩:∃ k,e=k+1:=⟨e-1,by omega⟩
 show Ok (Ad TT disp K (d+1) false 239 [.agg x,.ptr b 0] h) _
 rw[Abd A (by omega)]
 simp only[Wn,Ab]
 have x1:Ext h ((h.new (.cells x 103)).new (.cells (List.replicate 64 (.int .u8 0)) 103)):=(A9.new _ _).Fp _
 have g2:((h.new (.cells x 103)).new (.cells (List.replicate 64 (.int .u8 0)) 103)).get h.next=some (.cells x 103):=by
  rw[Bd _ (by show h.next<h.next+1;omega)];exact Ag _ _
 have g3:((h.new (.cells x 103)).new (.cells (List.replicate 64 (.int .u8 0)) 103)).get (h.next+1)=some (.cells Pu 103):=Ag _ _
 rw[show (h.new (.cells x 103)).next=h.next+1 from rfl]
 generalize (h.new (.cells x 103)).new (.cells (List.replicate 64 (.int .u8 0)) 103)=h1 at x1 g2 g3 ⊢
 have hb1:=x1.hb hb
 have gb:=x1.at hb hg
 rw[Fy g2 rfl,A3 hx]
 simp only[Ab]
 rw[Fy gb rfl,A3 hp]
 simp only[Ab]
 refine(A6k (K:=K) hx hp ux up hb1 hK).Al ?_
 rintro _ h2 ⟨rfl,x2,hb2⟩
 have g3:=x2.at hb1 g3
 have hl:=Akh hx hp
 refine Ok.st (Rf x p) g3 rfl (by show Jh (Rf x p)=64;rw[B8,hl]) (Cb (by rw[I6];exact hl.symm)) ?_
 rw[Xk (Aj _ _ _) Adg.1 Adg.2 hl]
 exact .ret ⟨rfl,(x1.trans x2).A5 (.inr (by omega)) (hb2 _ _ g3) _,hb2.put (hb2 _ _ g3) _⟩
end Go.Ev

namespace Go.Ev
open Go.Proofs
set_option maxRecDepth 100000
variable {K:Nat}{disp:Nat->Option FT}
theorem Ajs:∀ (l vs:List EV),vs.length<=l.length->Jy l vs=some (vs++l.drop vs.length)
 | l,[],_=>by cases l <;> rfl
 | [],_::_,h=>by simp at h
 | a::l,v::vs,h=>by
  show (match Jy l vs with|some x=>some (v::x)|none=>none)=_
  rw[Ajs l vs (by simpa using h)];rfl
theorem Ajc:∀ (l:List EV) (off:Nat) (vs:List EV),off+vs.length<=l.length->F3 l off vs=some (l.take off++vs++l.drop (off+vs.length))
 | [],off,vs,h=>by
  have h0:off=0/\vs = []:=by simp at h;exact⟨h.1,h.2⟩
  obtain⟨rfl,rfl⟩:=h0;rfl
 | a::l,0,vs,h=>by
  show Jy (a::l) vs=_
  rw[Ajs _ _ (by omega)];simp
 | a::l,off+1,vs,h=>by
  show (match F3 l off vs with|some x=>some (a::x)|none=>none)=_
  rw[Ajc l off vs (by simp at h;omega)]
  simp only[List.take_succ_cons,List.cons_append]
  rw[show off+1+vs.length=(off+vs.length)+1 by omega,List.drop_succ_cons]
theorem Ada {l vs:List EV}{off:Nat}(h:off+vs.length<=l.length):Lt l off vs=some (l.take off++vs++l.drop (off+vs.length)):=by rw[Uy,Ajc _ _ _ h]
theorem Agl {n:Nat}:∀ (l:List (List EV)),(∀ x ∈ l,x.length=n)->l.flatten.length=l.length*n
 | [],_=>by simp
 | a::l,hw=>by
  rw[List.flatten_cons,List.length_append,Agl l fun x hx=>hw x (List.mem_cons_of_mem _ hx),hw a (List.mem_cons_self ..),List.length_cons,Nat.add_mul];omega
theorem Ap7 {n:Nat}{l:List (List EV)}(hw:∀ x ∈ l,x.length=n){j:Nat}(hj:j<l.length):l.flatten=(l.take j).flatten++l[j]++(l.drop (j+1)).flatten/\(l.take j).flatten.length=j*n/\l[j].length=n:=by
 refine⟨?_,?_,hw _ (List.getElem_mem _)⟩
 ·have:l=l.take j++l[j]::l.drop (j+1):=by rw[<-List.drop_eq_getElem_cons hj,List.take_append_drop]
  conv=>lhs;rw[this]
  rw[List.flatten_append,List.flatten_cons,List.append_assoc]
 ·rw[Agl (n:=n) _ fun x hx=>hw x (List.mem_of_mem_take hx),List.length_take,Nat.min_eq_left (by omega)]
theorem A3v {n:Nat}{l:List (List EV)}(hw:∀ x ∈ l,x.length=n){j:Nat}(hj:j<l.length):Nf l.flatten (j*n) n=some l[j]:=by
 obtain⟨e,h1,h2⟩:=Ap7 hw hj
 rw[e,Hx (by rw[List.length_append,List.length_append,h1,h2];omega),<-h1,List.append_assoc,List.drop_left,<-h2,List.take_left]
theorem A43 {n:Nat}{l:List (List EV)}(hw:∀ x ∈ l,x.length=n){j:Nat}(hj:j<l.length){v:List EV}(hv:v.length=n):Lt l.flatten (j*n) v=some (l.set j v).flatten:=by
 obtain⟨e,h1,h2⟩:=Ap7 hw hj
 have e2:(l.set j v).flatten=(l.take j).flatten++v++(l.drop (j+1)).flatten:=by
  rw[List.set_eq_take_append_cons_drop,if_pos hj,List.flatten_append,List.flatten_cons,List.append_assoc]
 have hl:l.flatten.length=j*n+n+(l.drop (j+1)).flatten.length:=by rw[e,List.length_append,List.length_append,h1,h2]
 have t1:l.flatten.take (j*n)=(l.take j).flatten:=by rw[e,List.append_assoc,<-h1,List.take_left]
 have t2:l.flatten.drop (j*n+n)=(l.drop (j+1)).flatten:=by
  rw[show j*n+n=((l.take j).flatten++l[j]).length by rw[List.length_append,h1,h2],e,List.drop_left]
 rw[Ada (by rw[hl,hv];omega),hv,t1,t2,e2]
def Zn.change(Z:Zn)(off:Int)(p:List EV):Zn:=if 0<=off/\off<Z.l.length then { Z with l:=Z.l.set off.toNat (Rf (((Z.l[off.toNat]?).getD Pu)) p) } else Z
theorem Zn.Wf.change {Z:Zn}{size:Nat}(w:Z.Wf size)(off:Int){p:List EV}(hp:U8 p):(Z.change off p).Wf size:=by
 unfold Zn.change
 split
 ·refine⟨fun x hx=>?_,w.st,by simp only[List.length_set];exact w.safe,by simp only[List.length_set];exact w.len,by simp only[List.length_set];exact w.room⟩
  rcases List.mem_or_eq_of_mem_set hx with hx|hx
  ·exact w.u8 x hx
  ·rw[hx]
   refine U8.xor ?_ hp
   cases hg:Z.l[off.toNat]? with
   | none=>exact U8.zs
   | some y=>exact w.u8 _ (List.mem_of_getElem? hg)
 ·exact w
theorem Aps(A:Aq disp){e:Nat}(he:2<=e){h:Aa}{z q size:Nat}{Z:Zn}(zz:Eo h z q size Z)(w:Z.Wf size)(hs:size<=64)(hb:HB h)(off:Int){b:Nat}{p:List EV}(hg:h.get b=some (.cells p 103))(hp:p.length=64)(up:U8 p)(hK:100<K):
 Ok (Ik (Ad TT disp K e false) (Ad TT disp K e true) K (.ptr z 0) (I off) (.func 239 [] [.ptr b 0]) h) fun v h'=>v=I (if 0<=off/\off<Z.l.length then 0 else 31)/\Eo h' z q size (Z.change off p)/\A9 (fun j=>Z.l ≠ []/\j=q) h h'/\HB h':=by
 obtain⟨s,g,r⟩:=zz.A7
 have lz:=hb _ _ g
 have no:¬ (0<=off/\off<Z.l.length)->Ok (some (I 31,h)) fun v h'=>v=I (if 0<=off/\off<Z.l.length then 0 else 31)/\Eo h' z q size (Z.change off p)/\A9 (fun j=>Z.l ≠ []/\j=q) h h'/\HB h':=fun hn=>by
  unfold Zn.change
  rw[if_neg hn,if_neg hn]
  exact .ret ⟨rfl,zz,A9.refl _,hb⟩
 simp only[Ik,I,Ai]
 by_cases h0:off<0
 ·rw[decide_eq_true h0]
  simp only[Ab,Ai,Dt]
  exact no fun y=>by omega
 ·rw[decide_eq_false h0]
  simp only[Ab,Ai,Ck g rfl,r.E9]
  by_cases h1:(Z.l.length:Int)<=off
  ·rw[decide_eq_true h1]
   simp only[Ab,Dt]
   exact no fun y=>by omega
  ·rw[decide_eq_false h1]
   obtain⟨j,rfl⟩:∃ j:Nat,off=j:=⟨off.toNat,by omega⟩
   have hj:j<Z.l.length:=by omega
   have rb:=r.block (by omega)
   have lq:=hb _ _ rb
   have hyes:(0:Int)<=(j:Int)/\(j:Int)<Z.l.length:=by omega
   unfold Zn.change
   rw[if_pos hyes,if_pos hyes,Int.toNat_natCast,List.getElem?_eq_getElem hj,Option.getD_some]
   obtain⟨_,hj64⟩:=(Ap7 zz.wf hj).2
   simp only[Ab,Dt,Kg,Bz]
   rw[A4 lz (by kernel_rfl),Ck g rfl]
   simp only[Ab,Bz]
   rw[A4 lz (by kernel_rfl),Ck g rfl]
   simp only[Ab,Bz,r.ix hj]
   rw[A4 lq (by kernel_rfl),Ij rb rfl (A3v zz.wf hj)]
   simp only[Bz]
   refine Ok.Cs (by kernel_rfl) (by kernel_rfl) (A28 (K:=K) A he (h:=h.lift) (by rw[Di];exact hg) hj64 hp (w.u8 _ (List.getElem_mem _)) up (F0 hb) hK) (fun _ _ p=>p.2.1) ?_
   rintro _ h1 h2 ⟨rfl,_,hb1⟩ sm x2
   have hb2:=x2.hb hb
   have rb2:=x2.at hb rb
   have hl:=Akh hj64 hp
   rw[O4 (by kernel_rfl),Bco (v:=.agg (Rf Z.l[j] p)) rb2 rfl (by show Jh (Rf Z.l[j] p)=64;rw[B8,hl]) (A43 zz.wf hj hl)]
   have lq2:=hb2 _ _ rb2
   refine .ret ⟨rfl,⟨⟨s,?_,?_⟩,fun x hx=>?_⟩,(Ext.to x2).A5 (.inl ⟨fun y=>by rw[y]at hj;simp at hj,rfl⟩) lq2 _,hb2.put lq2 _⟩
   ·rw[As _ (Bt rb g (by simp))];exact x2.at hb g
   ·refine .inr ⟨by rw[List.length_set];omega,by rw[List.length_set];exact r.slice (by omega),Aj _ _ _,?_⟩
    rw[Agl (n:=64),List.length_set]
    intro x hx
    rcases List.mem_or_eq_of_mem_set hx with hx|hx
    ·exact zz.wf x hx
    ·rw[hx];exact hl
   ·rcases List.mem_or_eq_of_mem_set hx with hx|hx
    ·exact zz.wf x hx
    ·rw[hx];exact hl
theorem Av1(A:Aq disp){d:Nat}(hd:4<=d){h:Aa}{V:Nat}{D:Dv}{F:Nat->Prop}(s:Gz h V D F)(hb:HB h)(hK:100<K)(z off:Int){p:List EV}(hp:p.length=64)(up:U8 p):
 Ok (Ad TT disp K d false 225 [.ptr V 0,I z,I off,.agg p] h) fun v h'=>(∃ n:Int,v=I n/\(n=0 ↔ D.has z=true/\0<=off/\off<(D.zs z.toNat).l.length))/\Gz h' V (D.Ast z off p) (Bq F h h')/\A9 F h h'/\HB h':=by
 obtain⟨e,rfl⟩:∃ k,d=k+1:=⟨d-1,by omega⟩
 rw[Ad4 A (by omega)]
 simp only[Z7,Ab]
 have x1:Ext h (h.new (.cells p 103)):=A9.new _ _
 have g5:(h.new (.cells p 103)).get h.next=some (.cells p 103):=Ag _ _
 have hb1:HB (h.new (.cells p 103)):=hb.new _
 have s1:=s.ext x1
 generalize h.new (.cells p 103)=h1 at x1 g5 hb1 s1 ⊢
 rw[Yg s1]
 unfold Dv.Ast
 cases hh:D.has z with
 | false=>
  simp only[Ab,Bool.false_eq_true,false_and,if_false]
  exact .ret ⟨⟨13,rfl,by simp⟩,s1.grow s.lt x1.next,Ext.to x1,hb1⟩
 | true=>
  have hz:=of_decide_eq_true hh
  obtain⟨j,rfl⟩:∃ j:Nat,z=j:=⟨z.toNat,by omega⟩
  have hj:j<D.n:=by omega
  obtain⟨w,wl,zl,zp,q,a,b⟩:=s1
  have w':=w.zs j hj
  simp only[Ab,Uk,a.list,a.A3u hj,Int.toNat_natCast,true_and]
  obtain⟨f,rfl⟩:∃ k,e=k+1:=⟨e-1,by omega⟩
  rw[Q0 A (by omega)]
  refine(Aps (K:=K) (e:=f) A (by omega) (a.A7 j hj) w' w.size hb1 off g5 hp up hK).Al ?_
  rintro _ h2 ⟨rfl,z2,c2,hb2⟩
  obtain⟨d3,c23⟩:=Gz.A7 w a b wl hb1 hj (w'.change off up) z2 (c2.mono fun _=>.inr) hb2 (fun y=>.inr ⟨rfl,fun e=>y (by unfold Zn.change;split <;> simp[e])⟩)
  refine .ret ⟨⟨_,rfl,by split <;> simp_all⟩,?_,(Ext.to x1).trans c23,hb2⟩
  have d4:Gz h2 V (D.set j ((D.zs j).change off p)) (Bq F h h2):=d3.mono (fun i hi=>by
   rcases hi with y|y
   ·exact .inl y
   ·exact .inr ⟨Nat.le_trans x1.next y.1,y.2⟩) (Bq.lt s.lt (Nat.le_trans x1.next c23.next))
  unfold Zn.change at d4
  split
  ·rename_i hc
   rw[if_pos hc]at d4;exact d4
  ·rename_i hc
   rw[if_neg hc]at d4
   have e:D.set j (D.zs j)=D:=by
    unfold Dv.set
    have:K1 D.zs j (D.zs j)=D.zs:=by funext i;unfold K1;split <;> simp_all
    rw[this]
   rw[e]at d4;exact d4
end Go.Ev

namespace Go.Ev
open Go.Proofs
set_option maxRecDepth 100000
variable {K:Nat}{disp:Nat->Option FT}
theorem Yy.len {e:Yy}(w:e.Wf):e.cells.length=68:=by unfold Yy.cells;rw[List.length_append,w.len];rfl
theorem Yy.A7v {e:Yy}(w:e.Wf):Nf e.cells 4 64=some e.pat:=by
 rw[Hx (by rw[Yy.len w];omega)]
 show some ((e.pat).take 64)=_
 rw[List.take_of_length_le (by rw[w.len];omega)]
theorem Yy.one(e:Yy):e.cells[0]? = some (I e.Pb)/\e.cells[1]? = some (I e.kind)/\e.cells[2]? = some (I e.A7)/\e.cells[3]? = some (I e.off):=⟨rfl,rfl,rfl,rfl⟩
theorem Fe.call {h h3 h4:Aa}{D V M qc qh:Nat}{cs hs:EV}{ms:List (EV × EV)}{S:K4}{F G:Nat->Prop}{dv:Dv}(s:Fe h D S G)(a:Xy h D V M qc qh cs hs ms S F G)(hb:HB h)(d3:Gz h3 V dv (Bq F h.lift h3))(sm:Akg h3 h4)(c4:A9 F h h4):
 Fe h4 D { S with dv:=dv } (Bq G h h4)/\A9 G h h4/\Xy h4 D V M qc qh cs hs ms { S with dv:=dv } (Bq F h h4) (Bq G h h4):=by
 have d4:Gz h4 V dv (Bq F h h4):=by
  have:=d3.frame (h':=h4) (by rw[sm.next];exact Nat.le_refl _) fun j _=>sm.get j
  refine this.mono (fun j hj=>?_) (Bq.lt a.dev.lt c4.next)
  rcases hj with y|y
  ·exact .inl y
  ·exact .inr ⟨y.1,by rw[sm.next];exact y.2⟩
 have:=s.put a hb d4 c4
 exact⟨this.1,this.2,a.put hb d4 c4⟩
theorem Aus(A:Aq disp)(hK:1000<K){d:Nat}(hd:6<=d){h:Aa}{D:Nat}{S:K4}{G:Nat->Prop}(s:Fe h D S G)(hb:HB h){e:Yy}(w:e.Wf):
 Ok (Ad TT disp K d false 205 [.ptr D 0,.agg e.cells] h) fun v h'=>Fe h' D { S with dv:=S.dv.Ast e.A7 e.off e.pat } (Bq G h h')/\A9 G h h'/\HB h':=by
 obtain⟨dd,rfl⟩:∃ k,d=k+1:=⟨d-1,by omega⟩
 rw[Agb A (by omega)]
 simp only[Aax,Ab]
 have x1:Ext h (h.new (.cells e.cells 105)):=A9.new _ _
 have g3:(h.new (.cells e.cells 105)).get h.next=some (.cells e.cells 105):=Ag _ _
 have hb1:HB (h.new (.cells e.cells 105)):=hb.new _
 have s1:=s.ext x1
 have n1:(h.new (.cells e.cells 105)).next=h.next+1:=rfl
 generalize h.new (.cells e.cells 105)=h1 at x1 g3 hb1 s1 n1 ⊢
 have nx:¬ G h.next:=fun y=>Nat.lt_irrefl _ (s.lt _ y)
 obtain⟨V,M,qc,qh,cs,hs,ms,F,a⟩:=s1.Pb
 have lD:=hb1 _ _ a.D6
 have l3:=hb1 _ _ g3
 obtain⟨_,_,e2,e3⟩:=e.one
 rw[A4 lD (by kernel_rfl),Ck a.D6 rfl]
 try simp only[Ab,Bz]
 rw[A4 l3 (by kernel_rfl),C3 g3 rfl e2]
 try simp only[Ab,Bz]
 rw[A4 l3 (by kernel_rfl),C3 g3 rfl e3]
 try simp only[Ab,Bz]
 rw[A4 l3 (by kernel_rfl),Ij g3 rfl (Yy.A7v w)]
 try simp only[Ab,Bz]
 refine Ok.Anz (S:=F) (by kernel_rfl) (by kernel_rfl) (fun _=>by kernel_rfl) (Av1 (K:=K) A (by omega) a.dev.lift (F0 hb1) (by omega) e.A7 e.off w.len w.u8) (fun _ _ p=>p.2.2.1) ?_
 rintro _ h3 h4 s' ⟨⟨n,rfl,_⟩,d3,_,hb3⟩ sm c4 _
 obtain⟨s4,c14,a4⟩:=s1.call a hb1 d3 sm c4
 have hb4:=sm.hb hb3
 have g3:=c14.at hb1 g3 nx
 have fin:∀ (h5:Aa) (G5:Nat->Prop),Fe h5 D { S with dv:=S.dv.Ast e.A7 e.off e.pat } G5->(∀ i,G5 i->Bq G h h5 i)->A9 (Bq G h1 h4) h4 h5->HB h5->Ok (some (.tuple [],h5)) fun v h'=>Fe h' D { S with dv:=S.dv.Ast e.A7 e.off e.pat } (Bq G h h')/\A9 G h h'/\HB h':=fun h5 G5 s5 g5 c5 hb5=>by
  have cc:A9 G h h5:=((Ext.to x1).trans c14).then c5 fun j hj hl=>by
   rcases hj with y|y
   ·exact y
   ·omega
  exact .ret ⟨s5.mono g5 (Bq.lt s.lt cc.next),cc,hb5⟩
 have gr:∀ h5:Aa,h4.next<=h5.next->∀ i,Bq G h1 h4 i->Bq G h h5 i:=fun h5 l i hi=>by
  rcases hi with y|y
  ·exact .inl y
  ·exact .inr ⟨by omega,by omega⟩
 simp only[Ai,I]
 by_cases hn:n=0
 ·subst hn
  simp only[not_true_eq_false,decide_false,Ab,Wr]
  rw[C3 g3 rfl e2]
  try simp only[Ab]
  rw[C3 g3 rfl e3]
  rw[B6 (l:=[I e.A7,I e.off]) rfl]
  try simp only[Ab]
  have x5:Ext h4 (h4.new (.cells [I 0,I 0] 243)):=A9.new _ _
  have g4':(h4.new (.cells [I 0,I 0] 243)).get h4.next=some (.cells [I 0,I 0] 243):=Ag _ _
  refine Ok.st [I e.A7,I e.off] (o:=0) (l:=[I 0,I 0]) (Ag _ _) rfl rfl rfl ?_
  have x5:Ext h4 ((h4.new (.cells [I 0,I 0] 243)).put h4.next (.cells [I e.A7,I e.off] 243)):=(A9.new h4 _:Ext _ _).A5 (.inr (Nat.le_refl _)) (Nat.lt_succ_self _) _
  have g4:((h4.new (.cells [I 0,I 0] 243)).put h4.next (.cells [I e.A7,I e.off] 243)).get h4.next=some (.cells [I e.A7,I e.off] 243):=Aj _ _ _
  have n5:((h4.new (.cells [I 0,I 0] 243)).put h4.next (.cells [I e.A7,I e.off] 243)).next=h4.next+1:=rfl
  simp only[I]at x5 g4 n5 ⊢
  generalize (h4.new (.cells [EV.int .i64 0,.int .i64 0] 243)).put h4.next (.cells [.int .i64 e.A7,.int .i64 e.off] 243)=h5 at x5 g4 n5 ⊢
  have hb5:=x5.hb hb4
  have s5:=s4.ext x5
  have g3:=x5.at hb4 g3
  have a5:=a4.frame x5.next fun i hi=>x5.get i (s4.lt i hi) id
  have lD5:=hb5 _ _ a5.D6
  have l45:=hb5 _ _ g4
  have l35:=hb5 _ _ g3
  rw[A4 lD5 (by kernel_rfl),Ck a5.D6 rfl]
  try simp only[Ab,Bz]
  rw[A4 l45 (by kernel_rfl),Ij g4 rfl (A3 (n:=2) rfl)]
  try simp only[Ab,Bz]
  obtain⟨p,k,el,up,lp⟩:=A4j (h:=h5.lift) (by rw[Di];exact a5.map) a5.marks e.A7 e.off
  simp only[kp,I]at el
  rw[Xl (by kernel_rfl) (by kernel_rfl) el]
  try simp only[Ab,Bz]
  have x6:Ext h5 ((h5.new (.cells (List.replicate 64 (EV.int .u8 0)++[EV.int .i64 0]) 320)).put h5.next (.cells (p++[I k]) 320)):=(A9.new h5 _:Ext _ _).A5 (.inr (Nat.le_refl _)) (Nat.lt_succ_self _) _
  have g6:((h5.new (.cells (List.replicate 64 (EV.int .u8 0)++[EV.int .i64 0]) 320)).put h5.next (.cells (p++[I k]) 320)).get h5.next=some (.cells (p++[I k]) 320):=Aj _ _ _
  rw[O4 (by kernel_rfl)]
  refine Ok.st (p++[I k]) (Ag _ _) rfl (by show Jh (p++[I k])=65;rw[B8,List.length_append,lp];rfl) (Cb (by rw[List.length_append,List.length_replicate];show _=(p++[I k]).length;rw[List.length_append,lp];rfl)) ?_
  generalize (h5.new (.cells (List.replicate 64 (EV.int .u8 0)++[EV.int .i64 0]) 320)).put h5.next (.cells (p++[I k]) 320)=h6 at x6 g6 ⊢
  have hb6:=x6.hb hb5
  have s6:=s5.ext x6
  have g3:=x6.at hb5 g3
  have g4:=x6.at hb5 g4
  have a6:=a5.frame x6.next fun i hi=>x6.get i (s5.lt i hi) id
  have lD6:=hb6 _ _ a6.D6
  have l46:=hb6 _ _ g4
  have l36:=hb6 _ _ g3
  have l66:=hb6 _ _ g6
  try simp only[Ab,Bz]
  rw[A4 lD6 (by kernel_rfl),Ck a6.D6 rfl]
  try simp only[Ab,Bz]
  rw[A4 l46 (by kernel_rfl),Ij g4 rfl (A3 (n:=2) rfl)]
  try simp only[Ab,Bz]
  rw[A4 l66 (by kernel_rfl),Ij g6 rfl (l':=p) (by rw[Hx (by rw[List.length_append,lp];show 0+64<=64+1;omega),List.drop_zero,<-lp,List.take_left])]
  try simp only[Ab,Bz]
  rw[A4 l36 (by kernel_rfl),Ij g3 rfl (Yy.A7v w)]
  try simp only[Ab,Bz]
  refine Ok.Cs (by kernel_rfl) (by kernel_rfl) (A6k (K:=K) lp w.len up w.u8 (F0 hb6) (by omega)) (fun _ _ p=>p.2.1) ?_
  rintro _ h7' h7 ⟨rfl,_,_⟩ sm7 x7
  have hb7:=x7.hb hb6
  have s7:=s6.ext x7
  have a7:=a6.frame x7.next fun i hi=>x7.get i (s6.lt i hi) id
  have g6:=x7.at hb6 g6
  try simp only[Ab,Bz]
  rw[A4 l66 (by kernel_rfl),C3 g6 rfl (v:=I k) (by rw[List.getElem?_append_right (by omega),lp];rfl)]
  simp only[Ab,Bz,I,Ai]
  have xl:=Akh lp w.len
  rw[B6 (l:=Rf p e.pat++[I (Dk .i64 (k+1))]) (by
   show Wm (Dj [(0,64),(64,1)]) [(0,.agg (Rf p e.pat)),(1,.int .i64 (Dk .i64 (k+1)))] (List.replicate 64 (.int .u8 0)++[.int .i64 0])=_
   have e1:Lt (List.replicate 64 (EV.int .u8 0)++[EV.int .i64 0]) 0 (Rf p e.pat)=some (Rf p e.pat++[EV.int .i64 0]):=by
    rw[Ada (by rw[List.length_append,xl,List.length_replicate];show 0+64<=64+1;omega),xl];rfl
   have e2:Lt (Rf p e.pat++[EV.int .i64 0]) 64 [EV.int .i64 (Dk .i64 (k+1))]=some (Rf p e.pat++[I (Dk .i64 (k+1))]):=by
    rw[Ada (by rw[List.length_append,xl];show 64+1<=64+1;omega),<-xl,List.take_left,List.drop_of_length_le (by rw[List.length_append];exact Nat.le_refl _),List.append_nil]
   show Ay (Nat.beq (Jh (Rf p e.pat)) 64) (oB (fun z=>Wm (Dj [(0,64),(64,1)]) [(1,.int .i64 (Dk .i64 (k+1)))] z) (Lt (List.replicate 64 (EV.int .u8 0)++[EV.int .i64 0]) 0 (Rf p e.pat))) none=_
   rw[B8,xl,Nat.beq_refl,An,e1]
   show oB (fun z=>some z) (Lt (Rf p e.pat++[EV.int .i64 0]) 64 [EV.int .i64 (Dk .i64 (k+1))])=_
   rw[e2];rfl)]
  obtain⟨ms',eu,hm'⟩:=At0 (h:=h7.lift) (M:=M) (ms:=ms) (by rw[Di];exact a7.map) a7.marks e.A7 e.off (p:=Rf p e.pat) (n:=Dk .i64 (k+1)) (up.xor w.u8) xl
  simp only[kp,I]at eu
  have lM:=hb7 _ _ a7.map
  refine Ok.Anz (S:=fun i=>i=M) (by kernel_rfl) (by kernel_rfl) (fun _=>by kernel_rfl) (P:=fun v h'=>v=.tuple []/\h'=h7.lift.put M (.map ms')) ⟨_,_,eu,rfl,rfl⟩ (fun _ _ p=>by rw[p.2];exact(A9.refl (S:=fun i=>i=M) _).A5 (.inl rfl) (h:=h7.lift) lM _) ?_
  rintro _ _ h9 s9' ⟨rfl,rfl⟩ sm9 c9 _
  obtain⟨s8,c8,hb8⟩:=s7.A9n a7 hb7 hm'
  have e9:∀ i,h9.get i=(h7.put M (.map ms')).get i:=fun i=>by
   rw[sm9.get,Aa.get_put,Aa.get_put,Di]
  have n9:h9.next=h7.next:=sm9.next
  have s9:=s8.frame (h':=h9) (by rw[n9];exact Nat.le_refl _) fun i _=>e9 i
  refine fin h9 _ s9 (gr h9 (by have:=x5.next;have:=x6.next;have:=x7.next;omega)) ?_ (c9.hb hb7)
  refine((Ext.to x5).trans ((Ext.to x6).trans (Ext.to x7))).then c9 fun i hi _=>?_
  subst hi
  exact a4.sub.2.2.1
 ·simp only[hn,not_false_eq_true,decide_true,Ab]
  exact fin h4 _ s4 (gr h4 (Nat.le_refl _)) (A9.refl _) hb4
end Go.Ev

namespace Go.Ev
open Go.Proofs
set_option maxRecDepth 100000
variable {K:Nat}{disp:Nat->Option FT}
theorem Xy.own {h h':Aa}{D V M qc qh qc' qh':Nat}{cs hs cs' hs':EV}{ms:List (EV × EV)}{S:K4}{F G:Nat->Prop}(a:Xy h D V M qc qh cs hs ms S F G)(hb:HB h){ev Qd:List Yy}
 (g:h'.get D=some (.cells [.ptr V 0,cs',hs',.map M] 166)) (rc:Bu h' cs' qc' 105 68 ev.length (ev.map Yy.cells).flatten) (rh:Bu h' hs' qh' 105 68 Qd.length (Qd.map Yy.cells).flatten)
 (n:h.next<=h'.next) (k:∀ i,i<h.next->i ≠ D->(0<S.ev.length->i ≠ qc)->(0<S.Qd.length->i ≠ qh)->h'.get i=h.get i) (sz:∀ i,G i->i<h.next)
 (fc:0<ev.length->h.next<=qc'/\qc'<h'.next\/qc'=qc/\0<S.ev.length) (fh:0<Qd.length->h.next<=qh'/\qh'<h'.next\/qh'=qh/\0<S.Qd.length) (ne:0<ev.length->0<Qd.length->qc' ≠ qh') :
 Xy h' D V M qc' qh' cs' hs' ms ⟨S.dv,ev,Qd⟩ F (Bq G h h'):=by
 obtain⟨b1,b2,b3,b4,b5⟩:=a.sub
 obtain⟨c1,c2,c3,c4,c5⟩:=a.apart
 have lM:=hb _ _ a.map
 have eM:h'.get M=h.get M:=k _ lM (Bt a.map a.D6 (by simp)) (fun y=>Bt a.map (a.Ip.block y) (by simp)) (fun y=>Bt a.map (a.Aiw.block y) (by simp))
 refine⟨g,by rw[eM];exact a.map,a.marks,rc,rh,a.dev.frame n fun i hi=>k i (sz i (b1 i hi)) (fun y=>c1 (y ▸ hi)) (fun y z=>c3 y (z ▸ hi)) (fun y z=>c4 y (z ▸ hi)),⟨fun i hi=>.inl (b1 i hi),.inl b2,.inl b3,fun y=>?_,fun y=>?_⟩,⟨c1,c2,fun y z=>?_,fun y z=>?_,ne⟩⟩
 ·rcases fc y with z|⟨z,z'⟩
  ·exact .inr z
  ·rw[z];exact .inl (b4 z')
 ·rcases fh y with z|⟨z,z'⟩
  ·exact .inr z
  ·rw[z];exact .inl (b5 z')
 ·rcases fc y with x|⟨x,x'⟩
  ·have:=sz _ (b1 _ z);omega
  ·rw[x]at z;exact c3 x' z
 ·rcases fh y with x|⟨x,x'⟩
  ·have:=sz _ (b1 _ z);omega
  ·rw[x]at z;exact c4 x' z
theorem A3a(A:Aq disp)(hK:1000<K){d:Nat}(hd:7<=d){h:Aa}{D:Nat}{S:K4}{G:Nat->Prop}(s:Fe h D S G)(hb:HB h){e:Yy}(w:e.Wf)(hn:S.ev.length+S.Qd.length<200):
 Ok (Ad TT disp K d false 169 [.ptr D 0,.agg e.cells] h) fun v h'=>Fe h' D { S with dv:=S.dv.Sa e,Qd:=S.Qd++[e] } (Bq G h h')/\A9 G h h'/\HB h':=by
 obtain⟨dd,rfl⟩:∃ k,d=k+1:=⟨d-1,by omega⟩
 rw[Aea A (by omega)]
 simp only[Zq,Ab]
 have x1:Ext h (h.new (.cells e.cells 105)):=A9.new _ _
 have g3:(h.new (.cells e.cells 105)).get h.next=some (.cells e.cells 105):=Ag _ _
 have hb1:HB (h.new (.cells e.cells 105)):=hb.new _
 have s1:=s.ext x1
 have n1:(h.new (.cells e.cells 105)).next=h.next+1:=rfl
 generalize h.new (.cells e.cells 105)=h1 at x1 g3 hb1 s1 n1 ⊢
 have nx:¬ G h.next:=fun y=>Nat.lt_irrefl _ (s.lt _ y)
 obtain⟨V,M,qc,qh,cs,hs,ms,F,a⟩:=s1.Pb
 have lD:=hb1 _ _ a.D6
 have l3:=hb1 _ _ g3
 have el:=Yy.len w
 rw[A4 lD (by kernel_rfl),Ck a.D6 rfl]
 try simp only[Ab,Bz]
 rw[A4 l3 (by kernel_rfl),Ij g3 rfl (A3 el)]
 try simp only[Ab,Bz]
 rw[Zg (v:=.agg e.cells) (z:=List.replicate 4 (EV.int .i64 0)++List.replicate 64 (EV.int .u8 0)) rfl (by simp) el (by omega),Bg]
 have x2:Ext h1 (h1.new (.cells (EV.cells (.agg e.cells)) 105)):=A9.new _ _
 have gx:(h1.new (.cells (EV.cells (.agg e.cells)) 105)).get h1.next=some (.cells e.cells 105):=Ag _ _
 have n2:(h1.new (.cells (EV.cells (.agg e.cells)) 105)).next=h1.next+1:=rfl
 generalize h1.new (.cells (EV.cells (.agg e.cells)) 105)=h2 at x2 gx n2 ⊢
 have hb2:=x2.hb hb1
 have g3:=x2.at hb1 g3
 have s2:=s1.ext x2
 have a2:=a.frame x2.next fun i hi=>x2.get i (s1.lt i hi) id
 have r2:Bu h2.lift hs qh 105 68 S.Qd.length (S.Qd.map Yy.cells).flatten:=a2.Aiw.frame fun _=>Di _ _
 obtain⟨h3,e3,r3,n3,c3⟩:=Qe (x:=.slice h1.next 0 1 1 false) (n:=1) r2 rfl (by omega) (by omega) (by omega) (Xd (b:=h1.next) (by rw[Di];exact gx) el) (by rw[el])
 refine Ok.Anz (S:=fun i=>0<S.Qd.length/\i=qh) (by kernel_rfl) (by kernel_rfl) (fun _=>by kernel_rfl) (P:=fun v h'=>v=.slice h2.lift.next 0 (S.Qd.length+1) (S.Qd.length+1) true/\h'=h3) ⟨_,_,e3,rfl,rfl⟩ (fun _ _ p=>by rw[p.2];exact c3) ?_
 rintro _ _ h4 s' ⟨rfl,rfl⟩ sm x4 hs'
 have hb4:=x4.hb hb2
 rw[Abf]at r3 n3
 rw[Abf]
 have hnq:¬ (0<S.Qd.length/\D=qh):=fun y=>Bt a2.D6 (a2.Aiw.block y.1) (by simp) y.2
 have gD:h4.get D=some (.cells [.ptr V 0,cs,hs,.map M] 166):=A9.at x4 hb2 a2.D6 hnq
 have r4:Bu h4 (.slice h2.next 0 (S.Qd.length+1) (S.Qd.length+1) true) h2.next 105 68 (S.Qd.length+1) ((S.Qd.map Yy.cells).flatten++e.cells):=r3.frame fun _=>sm.get _
 have g3:h4.get h.next=some (.cells e.cells 105):=A9.at x4 hb2 g3 fun y=>by
  have:=a2.Aiw.block y.1
  exact Bt g3 this (by simp) y.2
 have lD4:=hb4 _ _ gD
 try simp only[Ab]
 rw[O4 (by rcases hs' with rfl|⟨w,rfl,_⟩ <;> kernel_rfl)]
 refine Ok.st1 gD rfl rfl (by show 2<4;decide) ?_
 simp only[List.set]
 have l34:=hb4 _ _ g3
 have h2l4:h2.next<h4.next:=by
  have:=r4.block (by omega)
  exact hb4 _ _ this
 have gD5:(h4.put D (.cells [EV.ptr V 0,cs,.slice h2.next 0 (S.Qd.length+1) (S.Qd.length+1) true,.map M] 166)).get D=some (.cells [EV.ptr V 0,cs,.slice h2.next 0 (S.Qd.length+1) (S.Qd.length+1) true,.map M] 166):=Aj _ _ _
 have k5:∀ i,i ≠ D->(h4.put D (.cells [EV.ptr V 0,cs,.slice h2.next 0 (S.Qd.length+1) (S.Qd.length+1) true,.map M] 166)).get i=h4.get i:=fun i hi=>As _ (Ne.symm hi)
 have n5:(h4.put D (.cells [EV.ptr V 0,cs,.slice h2.next 0 (S.Qd.length+1) (S.Qd.length+1) true,.map M] 166)).next=h4.next:=rfl
 have hb5:HB (h4.put D (.cells [EV.ptr V 0,cs,.slice h2.next 0 (S.Qd.length+1) (S.Qd.length+1) true,.map M] 166)):=hb4.put lD4 _
 have c5:A9 (Bq G h1 h2) h2 (h4.put D (.cells [EV.ptr V 0,cs,.slice h2.next 0 (S.Qd.length+1) (S.Qd.length+1) true,.map M] 166)):=(x4.mono (fun i hi=>.inl (by rw[hi.2];exact a2.sub.2.2.2.2 hi.1))).A5 (.inl (.inl a.sub.2.1)) lD4 _
 generalize h4.put D (.cells [EV.ptr V 0,cs,.slice h2.next 0 (S.Qd.length+1) (S.Qd.length+1) true,.map M] 166)=h5 at gD5 k5 n5 hb5 c5 ⊢
 have neD3:h.next ≠ D:=fun y=>nx (y ▸ a.sub.2.1)
 have g3:h5.get h.next=some (.cells e.cells 105):=by rw[k5 _ neD3];exact g3
 have lD5:D<h5.next:=by rw[n5];exact lD4
 have l35:h.next<h5.next:=by rw[n5];exact l34
 have a5:Xy h5 D V M qc h2.next cs (.slice h2.next 0 (S.Qd.length+1) (S.Qd.length+1) true) ms ⟨S.dv,S.ev,S.Qd++[e]⟩ F (Bq G h2 h5):=by
  refine a2.own hb2 gD5 ?_ ?_ c5.next (fun i hi h1 _ h3=>?_) s2.lt (fun y=>.inr ⟨rfl,y⟩) (fun _=>.inl ⟨Nat.le_refl _,by rw[n5];exact h2l4⟩) (fun y _=>?_)
  ·refine a2.Ip.frame fun y=>?_
   have gc:=a2.Ip.block y
   rw[k5 _ (Bt gc a2.D6 (by simp)),A9.at x4 hb2 gc fun z=>a2.apart.2.2.2.2 y z.1 z.2,gc]
  ·rw[List.length_append,List.map_append,List.flatten_append]
   show Bu h5 _ _ 105 68 (S.Qd.length+1) ((S.Qd.map Yy.cells).flatten++(e.cells++[]))
   rw[List.append_nil]
   exact r4.frame fun _=>k5 _ (by have:=hb2 _ _ a2.D6;omega)
  ·rw[k5 i h1]
   exact x4.get i hi fun y=>h3 y.1 y.2
  ·have:=hb2 _ _ (a2.Ip.block y);omega
 have lt5:∀ i,Bq G h2 h5 i->i<h5.next:=Bq.lt s2.lt c5.next
 have s5:Fe h5 D ⟨S.dv,S.ev,S.Qd++[e]⟩ (Bq G h2 h5):=by
  refine⟨lt5,⟨by rw[List.length_append];show S.ev.length+(S.Qd.length+1)<=200;omega,s.wf.wf,fun x hx=>?_⟩,V,M,qc,_,cs,_,ms,F,a5⟩
  rcases List.mem_append.1 hx with hx|hx
  ·exact s.wf.Xq x hx
  ·rw[List.mem_singleton.1 hx];exact w
 have c05:A9 G h h5:=((Ext.to x1).trans (Ext.to x2)).then c5 fun j hj hl=>by
  rcases hj with y|y
  ·exact y
  ·omega
 have cG:∀ h9,h5.next<=h9.next->A9 (Bq G h2 h5) h5 h9->A9 G h h9:=fun h9 l c=>c05.then c fun j hj hl=>by
  rcases hj with y|y
  ·exact y
  ·have:=x1.next;have:=x2.next;omega
 have fin:∀ (h9:Aa) (dv:Dv),Fe h9 D ⟨dv,S.ev,S.Qd++[e]⟩ (Bq (Bq G h2 h5) h5 h9)->A9 (Bq G h2 h5) h5 h9->HB h9->dv=S.dv.Sa e->Ok (some (.tuple [],h9)) fun v h'=>Fe h' D ⟨S.dv.Sa e,S.ev,S.Qd++[e]⟩ (Bq G h h')/\A9 G h h'/\HB h':=fun h9 dv s9 c9 hb9 he=>by
  subst he
  refine .ret ⟨s9.mono (fun i hi=>?_) (Bq.lt s.lt (cG h9 c9.next c9).next),cG h9 c9.next c9,hb9⟩
  rcases hi with (y|y)|y
  ·exact .inl y
  ·have:=x1.next;have:=x2.next;have:=c9.next;exact .inr ⟨by omega,by omega⟩
  ·exact .inr ⟨by have:=c05.next;omega,y.2⟩
 obtain⟨_,e1,e2,_⟩:=e.one
 rw[C3 g3 rfl e1]
 simp only[Ai,I]
 have fails:∀ st:Nat,S.dv.fail e.A7 st=S.dv.Sa e ->
  Ok (Cs 6 63 (((DX.ld ⟨0,[],[],[],[]⟩ 3 D).ld 5 h.next)) h5 (fun h=>Jo K (.ptr V 0) (I e.A7) (I st) h) fun _ h s=>some (.tuple [],h)) fun v h'=>Fe h' D ⟨S.dv.Sa e,S.ev,S.Qd++[e]⟩ (Bq G h h')/\A9 G h h'/\HB h':=by
  intro st hst
  refine Ok.Anz (S:=F) (by kernel_rfl) (by kernel_rfl) (fun _=>by kernel_rfl) (Axk (K:=K) a5.dev.lift (F0 hb5) e.A7 st) (fun _ _ p=>p.2.1) ?_
  rintro _ h6 h9 s' ⟨d6,_,hb6⟩ sm c9 _
  obtain⟨s9,c59,_⟩:=s5.call a5 hb5 d6 sm c9
  exact fin h9 _ s9 c59 (sm.hb hb6) hst
 by_cases k1:e.kind=1
 ·simp only[k1,decide_true,Ab]
  rw[Ij g3 rfl (A3 el)]
  refine(Aus (K:=K) A hK (by omega) s5 hb5 w).Al ?_
  rintro _ h9 ⟨s9,c9,hb9⟩
  exact fin h9 _ s9 c9 hb9 (by unfold Dv.Sa;rw[if_pos k1])
 ·simp only[k1,decide_false,Ab]
  by_cases k2:e.kind=2
  ·simp only[k2,decide_true,Ab,Bz]
   rw[A4 lD5 (by kernel_rfl),Ck gD5 rfl]
   try simp only[Ab,Bz]
   rw[A4 l35 (by kernel_rfl),C3 g3 rfl e2]
   exact fails 3 (by unfold Dv.Sa;rw[if_neg k1,if_pos k2])
  ·simp only[k2,decide_false,Ab]
   by_cases k3:e.kind=3
   ·simp only[k3,decide_true,Ab,Bz]
    rw[A4 lD5 (by kernel_rfl),Ck gD5 rfl]
    try simp only[Ab,Bz]
    rw[A4 l35 (by kernel_rfl),C3 g3 rfl e2]
    exact fails 4 (by unfold Dv.Sa;rw[if_neg k1,if_neg k2,if_pos k3])
   ·simp only[k3,decide_false,Ab]
    by_cases k4:e.kind=4
    ·simp only[k4,decide_true,Ab,Ck gD5 rfl]
     refine(Au9 (K:=K) a5.dev hb5).Al ?_
     rintro _ h9 ⟨d9,c9,hb9⟩
     obtain⟨s9,c59⟩:=s5.put a5 hb5 (d9.grow a5.dev.lt c9.next) c9
     exact fin h9 _ s9 c59 hb9 (by unfold Dv.Sa;rw[if_neg k1,if_neg k2,if_neg k3,if_pos k4])
    ·simp only[k4,decide_false,Ab]
     exact fin h5 S.dv (s5.grow s5.lt (Nat.le_refl _)) (A9.refl _) hb5 (by unfold Dv.Sa;rw[if_neg k1,if_neg k2,if_neg k3,if_neg k4])
theorem A34(q o n r:Nat)(op:Bool)(k:EV->R):Ar G1 (bin TT .eql 101) (.slice q o n r op) .Af k=k (.bool false):=by kernel_rfl
theorem Azv(q o z:Nat)(k:EV->R):Ar G1 (bin TT .eql 101) (.tail q o z) .Af k=k (.bool false):=by kernel_rfl
theorem Av2 {h:Aa}{q:Nat}{e:Yy}{ev:List Yy}(w:∀ x ∈ e::ev,x.Wf)(hn:ev.length<=65000)(hg:h.get q=some (.vec ((e::ev).map Yy.cells).flatten 105 68))(hb:HB h){kk:EV->Aa->R}{Q:EV->Aa->Prop}
 (hk:∀ v h' q',Bu h' v q' 105 68 ev.length (ev.map Yy.cells).flatten->Ext h h'->(0<ev.length->h.next<=q')->Ok (kk v h') Q) :
 Ok (Wz 68 (.slice q 0 (e::ev).length (e::ev).length true) (some (.int .i64 1)) none none fun v=>Al (Cd K v h) kk) Q:=by
 have x1:Ext h (h.new (.cells [] 105)):=A9.new _ _
 have eb:B5 (List.replicate 4 (.int .i64 0)++List.replicate 64 (.int .u8 0)) 105 68 0 [] h=some (.slice h.next 0 0 0 false,h.new (.cells [] 105)):=rfl
 have wl:∀ x ∈ ev.map Yy.cells,x.length=68:=fun x hx=>by
  obtain⟨y,hy,rfl⟩:=List.mem_map.1 hx
  exact Yy.len (w y (List.mem_cons_of_mem _ hy))
 have fl:(ev.map Yy.cells).flatten.length=ev.length*68:=by rw[Agl _ wl,List.length_map]
 rcases Nat.eq_zero_or_pos ev.length with h0|hp
 ·have:ev = []:=List.length_eq_zero_iff.1 h0
  subst this
  have e1:∀ k:EV->R,Wz 68 (.slice q 0 [e].length [e].length true) (some (.int .i64 1)) none none k=k (.tail q 68 0):=fun k=>rfl
  rw[e1]
  simp only[Cd,Azv,Ab,Fm]
  rw[eb,Bg]
  have:Dy 105 68 (.slice h.next 0 0 0 false) (.tail q 68 0) (h.new (.cells [] 105))=some (.slice h.next 0 0 0 false,h.new (.cells [] 105)):=by unfold Dy;rfl
  rw[this,Bg]
  try simp only[Ab]
  exact hk _ _ 0 (.empty _ _ _ _ _) x1 fun y=>absurd y (Nat.lt_irrefl _)
 ·obtain⟨m,hm⟩:∃ m,ev.length=m+1:=⟨ev.length-1,by omega⟩
  have e1:∀ k:EV->R,Wz 68 (.slice q 0 (e::ev).length (e::ev).length true) (some (.int .i64 1)) none none k=k (.slice q 68 ev.length ev.length true):=fun k=>by
   rw[List.length_cons,hm];rfl
  rw[e1]
  simp only[Cd,A34,Ab,Fm]
  rw[eb,Bg]
  have hc:Ni (h.new (.cells [] 105)) 68 ev.length (.slice q 68 ev.length ev.length true)=some (ev.map Yy.cells).flatten:=by
   show Ay (Nat.beq ev.length 0) (some []) (Ut _ q 68 (Nat.mul ev.length 68))=_
   rw[show Nat.beq ev.length 0=false by rw[hm];rfl,A6]
   unfold Ut Xt
   rw[x1.at hb hg]
   have el:=Yy.len (w e (List.mem_cons_self ..))
   show Nf (e.cells++(ev.map Yy.cells).flatten) 68 (ev.length*68)=_
   rw[Hx (by rw[List.length_append,el,fl];exact Nat.le_refl _),<-el,List.drop_left,List.take_of_length_le (by rw[fl,el];exact Nat.le_refl _)]
  have ap:=R4 (h:=h.new (.cells [] 105)) (b:=h.next) (e:=105) (x:=.slice q 68 ev.length ev.length true) rfl (by omega) hc fl 0
  rw[show ∀ (x:R) (k k':EV->Aa->R),Al (Al x k) k'=Al x fun v h=>Al (k v h) k' from fun x k k'=>by cases x <;> rfl]
  refine ap.Al ?_
  rintro v h2 ⟨q',r,x2,l⟩
  rw[Bg]
  exact hk v h2 q' r (x1.trans x2) fun y=>by have:=l y;have:=x1.next;omega
theorem A55(A:Aq disp)(hK:1000<K){d:Nat}(hd:9<=d){D:Nat}:∀ (m:Nat) (S:K4) (h:Aa) (G:Nat->Prop),S.ev.length<m->Fe h D S G->HB h ->
 Ok (E3 (Ad TT disp K d false) (Ad TT disp K d true) K m (.ptr D 0) h) fun v h'=>Fe h' D S.due (Bq G h h')/\A9 G h h'/\HB h':=by
 intro m
 induction m with
 | zero=>intro S h G hm;omega
 | succ m ih=>
  intro S h G hm s hb
  obtain⟨V,M,qc,qh,cs,hs,ms,F,a⟩:=s.Pb
  obtain⟨zl,z,q,b,_⟩:=a.dev.Pb
  have lD:=hb _ _ a.D6
  have lV:=hb _ _ b.dev
  have stay:S.due=S->Ok (some (.tuple [],h)) fun(_:EV) h'=>Fe h' D S.due (Bq G h h')/\A9 G h h'/\HB h':=fun y=>by
   rw[y];exact .ret ⟨s.grow s.lt (Nat.le_refl _),A9.refl _,hb⟩
  simp only[E3,Ab,Bz,A4 lD,Ck a.D6 rfl]
  have hdn:Lh K (.ptr V 0) h.lift=some (.bool S.dv.down,h.lift):=by
   simp only[Lh,Ab,Ck b.lift.dev rfl]
  rw[Xl (by kernel_rfl) (by kernel_rfl) hdn]
  obtain⟨dv,ev,Qd⟩:=S
  simp only at a hdn b hm ⊢
  cases hdd:dv.down with
  | true=>
   simp only[Ab,Ai,Bz,Kr,Iy]
   refine stay ?_
   unfold K4.due
   cases ev with
   | nil=>rfl
   | cons e r=>unfold Aud;rw[if_pos (.inl hdd)]
  | false=>
   simp only[Ab,Ai,Bz]
   rw[A4 lD (by kernel_rfl),Ck a.D6 rfl]
   simp only[Ab,a.Ip.E9,Ai]
   cases ev with
   | nil=>
    simp only[List.length_nil,Kr,Iy,Ab,Ai]
    exact stay rfl
   | cons e r=>
    have we:=s.wf.wf e (List.mem_cons_self ..)
    have el:=Yy.len we
    have gq:=a.Ip.block (Nat.succ_pos _)
    have lq:=hb _ _ gq
    have c0:Nf (((e::r).map Yy.cells).flatten) 0 68=some e.cells:=by
     show Nf (e.cells++_) 0 68=_
     rw[Hx (by rw[List.length_append,el];omega),List.drop_zero,<-el,List.take_left]
    have at0:(((e::r).map Yy.cells).flatten)[0]? = some (I e.Pb):=rfl
    rw[decide_eq_true (show (0:Int)<((e::r).length:Int) by rw[List.length_cons];omega)]
    simp only[Kr,Ab,Ai,Bz]
    rw[A4 lD (by kernel_rfl),Ck a.D6 rfl]
    try simp only[Ab,Bz]
    rw[show ∀ k:EV->R,Gn 68 cs (.int .i64 0) k=k (.ptr qc (0*68)) from fun k=>a.Ip.ix (Nat.succ_pos _) .i64 k]
    try simp only[Ab,Bz]
    rw[A4 lq (by kernel_rfl),C3 gq rfl at0]
    try simp only[Ab,Bz]
    rw[A4 lD (by kernel_rfl),Ck a.D6 rfl]
    try simp only[Ab,Bz]
    have hct:J8 K (.ptr V 0) h.lift=some (I dv.cnt,h.lift):=by
     simp only[J8,Ab,Ck b.lift.dev rfl]
    rw[Xl (by kernel_rfl) (by kernel_rfl) hct]
    simp only[I,Ai]
    by_cases hat:e.Pb<=dv.cnt
    ·rw[decide_eq_true hat]
     simp only[Iy,Ab,Z0,Ck a.D6 rfl]
     rw[show ∀ k:EV->R,Gn 68 cs (.int .i64 0) k=k (.ptr qc (0*68)) from fun k=>a.Ip.ix (Nat.succ_pos _) .i64 k]
     rw[Ij gq rfl c0]
     try simp only[Ab]
     have el0:(List.replicate 4 (EV.int .i64 0)++List.replicate 64 (EV.int .u8 0)).length=68:=by simp
     refine Ok.st e.cells (Ag _ _) rfl (by show Jh e.cells=68;rw[B8,el]) (Cb (by rw[el0];exact el.symm)) ?_
     have x1:Ext h ((h.new (.cells (List.replicate 4 (EV.int .i64 0)++List.replicate 64 (EV.int .u8 0)) 105)).put h.next (.cells e.cells 105)):=(A9.new h _:Ext _ _).A5 (.inr (Nat.le_refl _)) (Nat.lt_succ_self _) _
     have g2:((h.new (.cells (List.replicate 4 (EV.int .i64 0)++List.replicate 64 (EV.int .u8 0)) 105)).put h.next (.cells e.cells 105)).get h.next=some (.cells e.cells 105):=Aj _ _ _
     generalize (h.new (.cells (List.replicate 4 (EV.int .i64 0)++List.replicate 64 (EV.int .u8 0)) 105)).put h.next (.cells e.cells 105)=h1 at x1 g2 ⊢
     have hb1:=x1.hb hb
     have s1:=s.ext x1
     have a1:=a.frame x1.next fun i hi=>x1.get i (s.lt i hi) id
     have gq1:=a1.Ip.block (Nat.succ_pos _)
     have hcs:=a1.Ip.slice (Nat.succ_pos _)
     subst hcs
     simp only[Ab,Ck a1.D6 rfl]
     have hev:=s.wf.ev
     refine Av2 (K:=K) s.wf.wf (by simp only[List.length_cons]at hev;omega) gq1 hb1 ?_
     intro v h2 q' r2 x2 lq'
     have hb2:=x2.hb hb1
     have s2:=s1.ext x2
     have a2:=a1.frame x2.next fun i hi=>x2.get i (s1.lt i hi) id
     have g2:=x2.at hb1 g2
     try simp only[Ab]
     have lD2:=hb2 _ _ a2.D6
     refine Ok.st1 a2.D6 r2.plain.1 r2.plain.2 (by show 1<4;decide) ?_
     simp only[List.set]
     have gD3:(h2.put D (.cells [EV.ptr V 0,v,hs,.map M] 166)).get D=some (.cells [EV.ptr V 0,v,hs,.map M] 166):=Aj _ _ _
     have k3:∀ i,i ≠ D->(h2.put D (.cells [EV.ptr V 0,v,hs,.map M] 166)).get i=h2.get i:=fun i hi=>As _ (Ne.symm hi)
     have hb3:HB (h2.put D (.cells [EV.ptr V 0,v,hs,.map M] 166)):=hb2.put lD2 _
     have c3:A9 G h2 (h2.put D (.cells [EV.ptr V 0,v,hs,.map M] 166)):=(A9.refl h2).A5 (.inl a.sub.2.1) lD2 _
     have n3:(h2.put D (.cells [EV.ptr V 0,v,hs,.map M] 166)).next=h2.next:=rfl
     generalize h2.put D (.cells [EV.ptr V 0,v,hs,.map M] 166)=h3 at gD3 k3 hb3 c3 n3 ⊢
     have nD:h.next ≠ D:=by omega
     have g3:h3.get h.next=some (.cells e.cells 105):=by rw[k3 _ nD];exact g2
     have rb:0<r.length->q'<h2.next:=fun y=>hb2 _ _ (r2.block y)
     have a3:Xy h3 D V M q' qh v hs ms ⟨dv,r,Qd⟩ F (Bq G h1 h3):=by
      have h13:h1.next<=h3.next:=by rw[n3];exact x2.next
      have k13:∀ i,i<h1.next->i ≠ D->h3.get i=h1.get i:=fun i hi hne=>by rw[k3 i hne,x2.get i hi id]
      refine a1.own hb1 gD3 (r2.frame fun y=>k3 _ (by have:=lq' y;have:=hb1 _ _ a1.D6;omega)) (a1.Aiw.frame fun y=>k13 _ (hb1 _ _ (a1.Aiw.block y)) (Bt (a1.Aiw.block y) a1.D6 (by simp))) h13 (fun i hi h1 _ _=>k13 i hi h1) s1.lt
       (fun y=>.inl ⟨lq' y,by rw[n3];exact rb y⟩) (fun y=>.inr ⟨rfl,y⟩) fun y z=>?_
      have:=lq' y;have:=hb1 _ _ (a1.Aiw.block z);omega
     have c13:A9 G h h3:=((Ext.to x1).trans (Ext.to x2)).trans c3
     have s3:Fe h3 D ⟨dv,r,Qd⟩ (Bq G h1 h3):=by
      refine⟨Bq.lt s1.lt (by rw[n3];exact x2.next),⟨?_,fun x hx=>s.wf.wf x (List.mem_cons_of_mem _ hx),s.wf.Xq⟩,V,M,q',qh,v,hs,ms,F,a3⟩
      have:=s.wf.ev
      simp only[List.length_cons]at this ⊢
      omega
     rw[Ij g3 rfl (A3 el)]
     refine(A3a (K:=K) A hK (by omega) s3 hb3 we (by have:=s.wf.ev;simp only[List.length_cons]at this ⊢;omega)).Al ?_
     rintro _ h4 ⟨s4,c4,hb4⟩
     have hdue:(K4.mk dv (e::r) Qd).due=(K4.mk (dv.Sa e) r (Qd++[e])).due:=by
      unfold K4.due
      conv=>lhs;unfold Aud
      rw[if_neg (by rw[hdd];rintro(y|y);exact absurd y (by simp);exact y hat)]
     rw[hdue]
     refine(ih ⟨dv.Sa e,r,Qd++[e]⟩ h4 _ (by simp only[List.length_cons]at hm ⊢;omega) s4 hb4).mono ?_
     rintro _ h5 ⟨s5,c5,hb5⟩
     have t1:=x1.next
     have t2:=x2.next
     have t4:=c4.next
     have t5:=c5.next
     have c4':A9 G h h4:=c13.then c4 fun j hj hl=>by
      rcases hj with y|y
      ·exact y
      ·omega
     have c5':A9 G h h5:=c4'.then c5 fun j hj hl=>by
      rcases hj with (y|y)|y
      ·exact y
      ·omega
      ·omega
     refine⟨s5.mono (fun i hi=>?_) (Bq.lt s.lt c5'.next),c5',hb5⟩
     rcases hi with ((y|y)|y)|y
     ·exact .inl y
     ·exact .inr ⟨by omega,by omega⟩
     ·exact .inr ⟨by omega,by omega⟩
     ·exact .inr ⟨by omega,y.2⟩
    ·rw[decide_eq_false hat]
     simp only[Iy,Ab]
     refine stay ?_
     unfold K4.due Aud
     rw[if_pos (.inr hat)]
theorem Au7(A:Aq disp)(hK:1000<K)(S:K4):∀ d,12<=d->Bdp disp K d S:=by
 intro d hd h D G s hb
 obtain⟨e,rfl⟩:∃ k,d=k+1:=⟨d-1,by omega⟩
 rw[Air A (by omega)]
 exact A55 (K:=K) A hK (by omega) K S h G (by have:=s.wf.ev;omega) s hb
end Go.Ev

namespace Go.Ev
open Go.Proofs
set_option maxRecDepth 100000
variable {K:Nat}{disp:Nat->Option FT}
def Out(F:Nat->Prop)(h:Aa):Nat->Prop:=fun i=>i<h.next/\¬ F i
abbrev Kf(F:Nat->Prop):Aa->Aa->Prop:=A9 fun i=>¬ F i
theorem A9.kf {F:Nat->Prop}{h h':Aa}(c:A9 (Out F h) h h'):Kf F h h':=c.mono fun _ y=>y.2
theorem Ext.kf {F:Nat->Prop}{h h':Aa}(c:Ext h h'):Kf F h h':=Ext.to c
theorem Kf.less {F F':Nat->Prop}{h h':Aa}(c:Kf F h h')(s:∀ i,F' i->F i):Kf F' h h':=c.mono fun i y z=>y (s i z)
theorem Kf.at {F:Nat->Prop}{h h':Aa}(c:Kf F h h')(hb:HB h){i:Nat}{o:C7}(g:h.get i=some o)(hF:F i):h'.get i=some o:=A9.at c hb g fun y=>y hF
theorem Ext.A0c {F:Nat->Prop}{h h1 h2:Aa}(x:Ext h h1)(c:Kf (Bq F h h1) h1 h2):Kf F h h2:=by
 refine(Ext.to (S:=fun i=>¬ F i) x).then c fun i y hl z=>y (.inl z)
theorem O6.frame {h h':Aa}{m:Nat}{S:Mi}{H:Nat->Prop}(s:O6 h m S H)(n:h.next<=h'.next)(e:∀ i,H i->h'.get i=h.get i):O6 h' m S H:=by
 obtain⟨lt,D,p,bl,ql,np,q,c,G,a⟩:=s
 obtain⟨t1,t2,t3,t4,t5,t6⟩:=a.sub
 have k:∀ i o,h.get i=some o->H i->h'.get i=some o:=fun i o g hi=>by rw[e i hi];exact g
 exact⟨fun i hi=>Nat.lt_of_lt_of_le (lt i hi) n,D,p,bl,ql,np,q,c,G,⟨k _ _ a.J4.J4 t2,k _ _ a.J4.An3 t3⟩,
  ⟨a.G3.pos,k _ _ a.G3.G3 t4,k _ _ a.G3.row t5,fun d hd=>k _ _ (a.G3.que d hd) (t6 d hd).1,fun d hd=>k _ _ (a.G3.chan d hd) (t6 d hd).2,a.G3.inj⟩,
  a.psz,a.drv.frame n fun i hi=>e i (t1 i hi),a.apart,a.sub⟩
structure Mi.Wp(S:Mi):Prop where
 sm:Sm S.g
 ps:∀ d,d<S.g.D.toNat->∀ x ∈ S.ps d,E6 S.g x=d/\¬ S.bad x.toNat=1
structure Mi.Wf(S:Mi):Prop extends S.Wp where
 op:(S.a = -1/\S.b = -1)\/((0<=E6 S.g S.a/\¬ S.bad S.a.toNat=1)/\(0<=E6 S.g S.b/\¬ S.bad S.b.toNat=1))
theorem Ao9 {g:Gm}(s:Sm g){z:Int}(h:0<=E6 g z):Rng z:=by
 have h1:=s.d1;have h2:=s.z1;have h3:=s.d0;have h4:=s.z0
 rcases Y5 s z with y|⟨_,_,_,y1,y2⟩
 ·omega
 ·obtain⟨m0,m1⟩:=X2 (a:=g.D) (b:=g.Z) (A:=8) (B:=64) (by omega) (by omega) (by omega) (by omega)
  exact⟨by omega,by omega⟩
theorem Rq {g:Gm}(s:Sm g){z:Int}(h:0<=E6 g z):0<=z:=by
 rcases Y5 s z with y|⟨_,_,_,y1,y2⟩ <;> omega
theorem Mi.Wf.rng {S:Mi}(w:S.Wf):Rng S.a/\Rng S.b:=by
 rcases w.op with ⟨h1,h2⟩|⟨h1,h2⟩
 ·rw[h1,h2];exact⟨⟨by omega,by omega⟩,⟨by omega,by omega⟩⟩
 ·exact⟨Ao9 w.sm h1.1,Ao9 w.sm h2.1⟩
theorem Atw {g:Gm}{ps:Nat->List Int}{P:Int->Prop}(w:∀ d,d<g.D.toNat->∀ x ∈ ps d,E6 g x=d/\P x)(n:Nat)(z:Int)(hz:0<=E6 g z->P z):∀ d,d<g.D.toNat->∀ x ∈ (Adr g n ps z).2 d,E6 g x=d/\P x:=by
 intro d hd x hx
 unfold Adr at hx
 split at hx
 ·exact w d hd x hx
 ·rename_i h0
  split at hx
  ·exact w d hd x hx
  ·split at hx
   ·simp only[upd]at hx
    split at hx
    ·rename_i e
     subst e
     rcases List.mem_append.1 hx with hx|hx
     ·exact w _ hd x hx
     ·rw[List.mem_singleton.1 hx];exact⟨by omega,hz (by omega)⟩
    ·exact w d hd x hx
   ·exact w d hd x hx
theorem A2p(S:Mi)(z u:Int):(S.leave z u).1.g=S.g/\(S.leave z u).1.a=S.a/\(S.leave z u).1.b=S.b/\(S.leave z u).1.u=S.u/\(S.leave z u).1.bad=S.bad:=by
 unfold Mi.leave
 split
 ·exact⟨rfl,rfl,rfl,rfl,rfl⟩
 ·split <;> exact⟨rfl,rfl,rfl,rfl,rfl⟩
theorem Mi.Wp.leave {S:Mi}(w:S.Wp)(z u:Int):(S.leave z u).1.Wp:=by
 unfold Mi.leave
 split
 ·exact w
 ·rename_i h0
  split
  ·refine⟨w.sm,Atw w.ps _ _ fun hz y=>h0 (.inr (.inl ?_))⟩
   unfold Mi.Ag9
   rw[decide_eq_true hz,decide_eq_true y];rfl
  ·exact⟨w.sm,w.ps⟩
theorem Au8(S:Mi):S.close.1.g=S.g/\S.close.1.a = -1/\S.close.1.b = -1/\S.close.1.u=0/\S.close.1.bad=S.bad:=by
 unfold Mi.close
 obtain⟨a1,a2,a3,a4,a5⟩:=A2p { S with a:=-1,b:=-1,u:=0 } S.a S.u
 obtain⟨b1,b2,b3,b4,b5⟩:=A2p (({ S with a:=-1,b:=-1,u:=0 }:Mi).leave S.a S.u).1 S.b S.u
 exact⟨b1.trans a1,b2.trans a2,b3.trans a3,b4.trans a4,b5.trans a5⟩
theorem Mi.Wp.close {S:Mi}(w:S.Wp):S.close.1.Wf:=by
 have:({ S with a:=-1,b:=-1,u:=0 }:Mi).Wp:=⟨w.sm,w.ps⟩
 obtain⟨a1,a2,a3,a4,a5⟩:=Au8 S
 exact { toWp:=(this.leave _ _).leave _ _,op:=.inl ⟨a2,a3⟩ }
theorem Mi.Wp.mark {S:Mi}(w:S.Wp){z:Int}(hz:0<=E6 S.g z):(S.mark z).Wp:=by
 refine⟨w.sm,fun d hd x hx=>?_⟩
 have hx:x ∈ S.dropped z d:=hx
 unfold Mi.dropped at hx
 rw[if_neg (by omega)]at hx
 have key:∀ x,E6 S.g x=d/\¬ S.bad x.toNat=1->¬ x=z->E6 S.g x=d/\¬ (S.mark z).bad x.toNat=1:=fun x hx hn=>by
  refine⟨hx.1,?_⟩
  show ¬ (if x.toNat=z.toNat then (1:Int) else S.bad x.toNat)=1
  have h1:=Rq w.sm hz
  have h2:=Rq w.sm (z:=x) (by rw[hx.1];omega)
  rw[if_neg (by omega)]
  exact hx.2
 simp only[upd]at hx
 split at hx
 ·rename_i e
  have h2:=(List.mem_filter.1 hx).2
  have h1:=w.ps d hd x (by rw[e];exact(List.mem_filter.1 hx).1)
  exact key x h1 (of_decide_eq_true h2)
 ·rename_i hne
  have h1:=w.ps d hd x hx
  refine key x h1 fun y=>hne ?_
  subst y
  omega
theorem Mi.Wf.Ch {S:Mi}(w:S.Wf)(z:Int):(S.Ch z).1.Wf:=by
 unfold Mi.Ch
 split
 ·exact w
 ·rename_i hz
  have hz:0<=E6 S.g z:=by omega
  split
  ·exact w
  ·split
   ·rename_i hn
    refine { toWp:=w.toWp.mark hz,op:=?_ }
    rcases w.op with y|⟨y1,y2⟩
    ·exact .inl y
    ·have key:∀ x,(0<=E6 S.g x/\¬ S.bad x.toNat=1)->¬ z=x->0<=E6 S.g x/\¬ (S.mark z).bad x.toNat=1:=fun x hx hn=>by
      refine⟨hx.1,?_⟩
      show ¬ (if x.toNat=z.toNat then (1:Int) else S.bad x.toNat)=1
      have h1:=Rq w.sm hz
      have h2:=Rq w.sm hx.1
      rw[if_neg (by omega)]
      exact hx.2
     exact .inr ⟨key _ y1 hn.1,key _ y2 hn.2⟩
   ·exact(w.toWp.mark hz).close
theorem Al3 {g:Gm}{ps ps':Nat->List Int}{x y:Int}{P:Int->Prop}(w:∀ d,d<g.D.toNat->∀ x ∈ ps d,E6 g x=d/\P x)(h:Adh ps g.D.toNat=some (x,y,ps')):
 ∃ a b:Nat,a<g.D.toNat/\b<g.D.toNat/\a ≠ b/\ps a=x::ps' a/\ps b=y::ps' b/\(∀ d,d ≠ a->d ≠ b->ps' d=ps d)/\E8 ps (-1) g.D.toNat=a/\E8 ps a g.D.toNat=b/\(E6 g x=a/\P x)/\(E6 g y=b/\P y):=by
 unfold Adh at h
 split at h
 ·cases h
 ·rename_i hp
  obtain⟨a,b,e1,e2,h1,h2,h3,h4,h5⟩:=As7 hp Ahl
  rw[e1,e2]at h
  injection h with h
  injection h with hx h
  injection h with hy hps
  simp only[Int.toNat_natCast]at hx hy hps
  obtain⟨x',r,hr⟩:∃ x r,ps a=x::r:=by cases hq:ps a with|nil=>exact absurd hq h4|cons x r=>exact⟨x,r,rfl⟩
  obtain⟨y',t,ht⟩:∃ x r,ps b=x::r:=by cases hq:ps b with|nil=>exact absurd hq h5|cons x r=>exact⟨x,r,rfl⟩
  rw[hr]at hx hps
  rw[ht]at hy hps
  simp only[List.headD_cons,List.tail_cons]at hx hy hps
  subst hx;subst hy;subst hps
  refine⟨a,b,h1,h2,h3,?_,?_,fun d d1 d2=>?_,e1,e2,w a h1 _ (by rw[hr];exact List.mem_cons_self ..),w b h2 _ (by rw[ht];exact List.mem_cons_self ..)⟩
  ·rw[hr];simp[upd,h3]
  ·rw[ht];simp[upd]
  ·simp[upd,d1,d2]
theorem Mi.Wf.ready {S:Mi}(w:S.Wf):S.ready.1.Wf:=by
 unfold Mi.ready
 split
 ·exact w
 ·split
  ·exact { toWp:=⟨w.sm,w.ps⟩,op:=w.op }
  ·cases hp:Adh S.ps S.g.D.toNat with
   | none=>exact { toWp:=⟨w.sm,w.ps⟩,op:=w.op }
   | some t=>
    obtain⟨x,y,ps'⟩:=t
    obtain⟨a,b,h1,h2,h3,ea,eb,ed,_,_,dx,dy⟩:=Al3 w.ps hp
    refine { toWp:=⟨w.sm,fun d hd z hz=>?_⟩,op:=.inr ⟨⟨by show 0<=E6 S.g x;omega,dx.2⟩,⟨by show 0<=E6 S.g y;omega,dy.2⟩⟩ }
    have hz:z ∈ ps' d:=hz
    refine w.ps d hd z ?_
    by_cases d1:d=a
    ·subst d1;rw[ea];exact List.mem_cons_of_mem _ hz
    ·by_cases d2:d=b
     ·subst d2;rw[eb];exact List.mem_cons_of_mem _ hz
     ·rw[ed d d1 d2]at hz;exact hz
structure Fc(h:Aa)(m:Nat)(S:Mi)(F:Nat->Prop):Prop where
 s:O6 h m S (Out F h)
 lt:∀ i,F i->i<h.next
 wf:S.Wf
section
variable {h h':Aa}{m:Nat}{S S':Mi}{F F':Nat->Prop}
theorem Fc.made(M:Fc h m S F)(s:O6 h' m S' (Bq (Out F h) h h'))(c:A9 (Out F h) h h')(w:S'.Wf):Fc h' m S' F/\Kf F h h':=by
 refine⟨⟨s.mono (fun i hi=>?_) fun i hi=>hi.1,fun i hi=>Nat.lt_of_lt_of_le (M.lt i hi) c.next,w⟩,c.kf⟩
 rcases hi with hi|hi
 ·exact⟨Nat.lt_of_lt_of_le hi.1 c.next,hi.2⟩
 ·exact⟨hi.2,fun y=>by have:=M.lt i y;omega⟩
theorem Fc.ext(M:Fc h m S F)(hb:HB h)(x:Ext h h'):Fc h' m S (Bq F h h'):=by
 refine⟨(M.s.ext hb x).mono (fun i hi=>⟨Nat.lt_of_lt_of_le hi.1 x.next,fun y=>?_⟩) fun i hi=>hi.1,Bq.lt M.lt x.next,M.wf⟩
 rcases y with y|y
 ·exact hi.2 y
 ·have:=hi.1;omega
theorem Fc.less(M:Fc h m S F)(s:∀ i,F' i->F i):Fc h m S F':=
 ⟨M.s.mono (fun i hi=>⟨hi.1,fun y=>hi.2 (s i y)⟩) fun i hi=>hi.1,fun i hi=>M.lt i (s i hi),M.wf⟩
theorem Fc.Arx {T:Nat->Prop}(M:Fc h m S F)(c:A9 T h h')(t:∀ i,T i->i<h.next->F i):Fc h' m S F:=by
 refine⟨(M.s.frame c.next fun i hi=>c.get i hi.1 fun y=>hi.2 (t i y hi.1)).mono (fun i hi=>⟨Nat.lt_of_lt_of_le hi.1 c.next,hi.2⟩) fun i hi=>hi.1,fun i hi=>Nat.lt_of_lt_of_le (M.lt i hi) c.next,M.wf⟩
end
section
variable (A:Aq disp)(hK:10000<K){d:Nat}{h:Aa}{m:Nat}{S:Mi}{F:Nat->Prop}(M:Fc h m S F)(hb:HB h)
include A hK M hb
theorem Bjv(n:Nat):Ajh disp K n:=fun T _ d hd=>Au7 A (by omega) T d hd
theorem A30(hd:16<=d):Ok (Ad TT disp K d false 80 [.ptr m 0] h) fun v h'=>v=I S.ready.2/\Fc h' m S.ready.1 F/\Kf F h h'/\HB h':=by
 refine(An6 A hK hd (Bjv A hK M hb S.dr.ev.length) (Nat.le_refl _) M.s hb).mono ?_
 rintro v h' ⟨e,s,c,hb'⟩
 obtain⟨M',k⟩:=M.made s c M.wf.ready
 exact⟨e,M',k,hb'⟩
theorem Apu(hd:18<=d){z:Int}(hz:Rng z):Ok (Ad TT disp K d false 20 [.ptr m 0,I z] h) fun v h'=>v=I (S.Ch z).2/\Fc h' m (S.Ch z).1 F/\Kf F h h'/\HB h':=by
 refine(Afj A hK hd (Bjv A hK M hb S.dr.ev.length) (Nat.le_refl _) M.s hb M.wf.rng.1 M.wf.rng.2 hz).mono ?_
 rintro v h' ⟨e,s,c,hb'⟩
 obtain⟨M',k⟩:=M.made s c (M.wf.Ch z)
 exact⟨e,M',k,hb'⟩
end
end Go.Ev

namespace Go.Ev
open Go.Proofs
set_option maxRecDepth 100000
variable {K:Nat}{disp:Nat->Option FT}
theorem Fe.lift {h:Aa}{D:Nat}{S:K4}{G:Nat->Prop}(d:Fe h D S G):Fe h.lift D S G:=d.frame (Nat.le_refl _) fun i _=>Di h i
theorem Fe.same {h h3 h4:Aa}{D:Nat}{S:K4}{G:Nat->Prop}(d:Fe h3 D S (Bq G h.lift h3))(sm:Akg h3 h4):Fe h4 D S (Bq G h h4):=by
 refine(d.frame (h':=h4) (by rw[sm.next];exact Nat.le_refl _) fun j _=>sm.get j).mono (fun j hj=>?_) fun j hj=>?_
 ·rcases hj with y|y
  ·exact .inl y
  ·exact .inr ⟨y.1,by rw[sm.next];exact y.2⟩
 ·rw[sm.next]
  rcases hj with y|y
  ·exact d.lt _ (.inl y)
  ·rw[sm.next]at y;exact y.2
theorem Fc.drv {h h':Aa}{m D p bl ql np:Nat}{q c:Nat->Nat}{S:Mi}{G F:Nat->Prop}{dr:K4}(M:Fc h m S F)(hb:HB h)(a:Aid h m D p bl ql np q c S G (Out F h))(d:Fe h' D dr (Bq G h h'))(ch:A9 G h h'):
 Fc h' m { S with dr:=dr } F/\Kf F h h':=by
 have cH:=ch.mono a.sub.1
 exact M.made ⟨Bq.lt M.s.lt cH.next,D,p,bl,ql,np,q,c,_,a.Azq hb d ch⟩ cH { toWp:=⟨M.wf.sm,M.wf.ps⟩,op:=M.wf.op }
noncomputable def Mi.put(S:Mi)(e:En)(A7 F6 Ax seq:Int):Mi × Int:=
 if ¬ (F4 { e with F6:=F6 } A7 S.u Ax seq).2=0 then (S,(F4 { e with F6:=F6 } A7 S.u Ax seq).2) else
 ({ S with dr:=(S.dr.append A7 (Dl (Ii (F4 { e with F6:=F6 } A7 S.u Ax seq).1))).1 },
  if (S.dr.append A7 (Dl (Ii (F4 { e with F6:=F6 } A7 S.u Ax seq).1))).2.2=0/\¬ (S.dr.append A7 (Dl (Ii (F4 { e with F6:=F6 } A7 S.u Ax seq).1))).2.1=S.u then 30 else (S.dr.append A7 (Dl (Ii (F4 { e with F6:=F6 } A7 S.u Ax seq).1))).2.2)
theorem Aqv:List.replicate 5 (EV.int .i64 0)++List.replicate 44 (EV.int .u8 0)=Fr.zero.cells:=by kernel_rfl
theorem A1v(A:Aq disp)(hK:10000<K){d:Nat}(hd:16<=d){h:Aa}{m:Nat}{S:Mi}{F:Nat->Prop}(M:Fc h m S F)(hb:HB h){e:En}(w:e.Wf)(A7 F6 Ax seq:Int):
 Ok (Ad TT disp K d false 131 [.ptr m 0,.agg e.cells,I A7,I F6,I Ax,I seq] h) fun v h'=>v=I (S.put e A7 F6 Ax seq).2/\Fc h' m (S.put e A7 F6 Ax seq).1 F/\Kf F h h'/\HB h':=by
 obtain⟨dd,rfl⟩:∃ k,d=k+1:=⟨d-1,by omega⟩
 rw[Aeb A (by omega)]
 have w':({ e with F6:=F6 }:En).Wf:=⟨w.len,w.u8⟩
 have el:=En.Ce w
 have el':=En.Ce w'
 obtain⟨_,D,p,bl,ql,np,q,c,G,a⟩:=M.s
 simp only[Za,Ab]
 refine Ok.st1 (Ag _ _) rfl rfl (by show 5<e.cells.length;omega) ?_
 have x1:Ext h ((h.new (.cells e.cells 89)).put h.next (.cells (e.cells.set 5 (I F6)) 89)):=(A9.new h _:Ext _ _).A5 (.inr (Nat.le_refl _)) (Nat.lt_succ_self _) _
 have g7:((h.new (.cells e.cells 89)).put h.next (.cells (e.cells.set 5 (I F6)) 89)).get h.next=some (.cells (e.cells.set 5 (I F6)) 89):=Aj _ _ _
 generalize (h.new (.cells e.cells 89)).put h.next (.cells (e.cells.set 5 (I F6)) 89)=h1 at x1 g7 ⊢
 have g7:h1.get h.next=some (.cells ({ e with F6:=F6 }:En).cells 89):=g7
 unfold Mi.put
 generalize ({ e with F6:=F6 }:En)=e' at g7 w' el' ⊢
 have hb1:=x1.hb hb
 have l7:=hb1 _ _ g7
 have m1:=a.J4.ext fun i o g=>x1.at hb g
 have lm:=hb1 _ _ m1.J4
 rw[A4 l7 (by kernel_rfl),Fy g7 rfl,A3 el']
 try simp only[Ab,Bz]
 rw[A4 lm (by kernel_rfl),m1.ou]
 try simp only[Bz]
 refine Ok.Cs (by kernel_rfl) (by kernel_rfl) (Ae7 (K:=K) w' (F0 hb1) hK A7 S.u Ax seq) (fun _ _ p=>p.2) ?_
 rintro _ h2' h2 ⟨rfl,_⟩ _ x2
 have hb2:=x2.hb hb1
 have fw:=Amj w' A7 S.u Ax seq
 generalize hfe:F4 e' A7 S.u Ax seq=fe at fw ⊢
 obtain⟨f,er⟩:=fe
 have fl:=Fr.Ce fw
 have zl:=Fr.Ce Fr.Nz
 simp only[Ab,Aqv,Bz]
 rw[O4 (by kernel_rfl)]
 refine Ok.st f.cells (Ag _ _) rfl (by show Jh f.cells=49;rw[B8,fl]) (Cb (by rw[zl];exact fl.symm)) ?_
 have x3:Ext h2 ((h2.new (.cells Fr.zero.cells 120)).put h2.next (.cells f.cells 120)):=(A9.new h2 _:Ext _ _).A5 (.inr (Nat.le_refl _)) (Nat.lt_succ_self _) _
 have g13:((h2.new (.cells Fr.zero.cells 120)).put h2.next (.cells f.cells 120)).get h2.next=some (.cells f.cells 120):=Aj _ _ _
 generalize (h2.new (.cells Fr.zero.cells 120)).put h2.next (.cells f.cells 120)=h3 at x3 g13 ⊢
 have hb3:=x3.hb hb2
 have x03:Ext h h3:=(x1.trans x2).trans x3
 simp only[I,Ai]
 by_cases he:er=0
 ·subst he
  simp only[not_true_eq_false,decide_false,Ab,if_false,Va]
  obtain⟨hf,hfr,_,_⟩:=Ai8 w' (A7:=A7) (off:=S.u) (Ax:=Ax) (seq:=seq) (by rw[hfe])
  rw[hfe]at hf
  have hf:f=_:=hf
  have hfB:frB f=true:=by rw[hf];exact hfr
  have m3:=a.J4.ext fun i o g=>x03.at hb g
  have lm3:=hb3 _ _ m3.J4
  have l13:=hb3 _ _ g13
  try simp only[Bz]
  rw[A4 lm3 (by kernel_rfl),m3.table]
  try simp only[Ab,Bz]
  rw[A4 l13 (by kernel_rfl),Fy g13 rfl,A3 fl]
  try simp only[Ab,Bz]
  refine Ok.Cs (by kernel_rfl) (by kernel_rfl) (An0 (K:=K) fw hfB (F0 hb3) hK) (fun _ _ p=>p.2) ?_
  rintro _ h4' h4 ⟨rfl,_⟩ _ x4
  have hb4:=x4.hb hb3
  have ul:(Dl (Ii f)).length=64:=by rw[Cu,U4 fw]
  try simp only[Ab,Bz]
  rw[O4 (by kernel_rfl)]
  refine Ok.st (Dl (Ii f)) (Ag _ _) rfl (by show Jh (Dl (Ii f))=64;rw[B8,ul]) (Cb (by rw[List.length_replicate];exact ul.symm)) ?_
  have x5:Ext h4 ((h4.new (.cells (List.replicate 64 (EV.int .u8 0)) 103)).put h4.next (.cells (Dl (Ii f)) 103)):=(A9.new h4 _:Ext _ _).A5 (.inr (Nat.le_refl _)) (Nat.lt_succ_self _) _
  have g15:((h4.new (.cells (List.replicate 64 (EV.int .u8 0)) 103)).put h4.next (.cells (Dl (Ii f)) 103)).get h4.next=some (.cells (Dl (Ii f)) 103):=Aj _ _ _
  generalize (h4.new (.cells (List.replicate 64 (EV.int .u8 0)) 103)).put h4.next (.cells (Dl (Ii f)) 103)=h5 at x5 g15 ⊢
  have hb5:=x5.hb hb4
  have x05:Ext h h5:=(x03.trans x4).trans x5
  have M5:=M.ext hb x05
  clear m3 m1 a
  obtain⟨_,D,p,bl,ql,np,q,c,G,a⟩:=M5.s
  have lm5:=hb5 _ _ a.J4.J4
  have l15:=hb5 _ _ g15
  simp only[U5,Ab,Ai,I,not_true_eq_false,decide_false,Bz]
  rw[A4 lm5 (by kernel_rfl),a.J4.D6]
  try simp only[Ab,Bz]
  rw[A4 l15 (by kernel_rfl),Fy g15 rfl,A3 ul]
  try simp only[Ab,Bz]
  refine Ok.Anz (S:=G) (by kernel_rfl) (by kernel_rfl) (fun _=>by kernel_rfl) (Ahc (K:=K) A (by omega) (d:=dd) (by omega) (fun k hk=>Au7 A (by omega) S.dr k hk) a.drv.lift (F0 hb5) A7 ul ⟨_,Avy fw,rfl⟩) (fun _ _ p=>p.2.2.1) ?_
  rintro _ h6 h7 s' ⟨rfl,d6,_,hb6⟩ sm c7 _
  have hb7:=sm.hb hb6
  obtain⟨M7,k7⟩:=M5.drv hb5 a (d6.same sm) c7
  have k07:Kf F h h7:=x05.A0c k7
  have M7:=M7.less fun i (hi:F i)=>Or.inl hi
  generalize S.dr.append A7 (Dl (Ii f))=ap at M7 ⊢
  obtain⟨dr,off,er⟩:=ap
  obtain⟨_,D,p,bl,ql,np,q,c,G,a⟩:=M7.s
  simp only[Ab,I,Ai]
  by_cases h0:er=0
  ·simp only[h0,decide_true,Ab,a.J4.ou,I,Ai,true_and]
   by_cases h1:off=S.u
   ·simp only[h1,not_true_eq_false,decide_false,Ab,Is,Ks,if_false]
    exact .ret ⟨rfl,M7,k07,hb7⟩
   ·simp only[h1,not_false_eq_true,decide_true,Ab,Is,Ks,if_true]
    exact .ret ⟨rfl,M7,k07,hb7⟩
  ·simp only[h0,decide_false,Ab,Is,Ks,false_and,if_false]
   exact .ret ⟨rfl,M7,k07,hb7⟩
 ·simp only[he,not_false_eq_true,decide_true,Ab,if_true]
  exact .ret ⟨rfl,(M.ext hb x03).less fun i (hi:F i)=>Or.inl hi,x03.kf,hb3⟩
noncomputable def Mi.both(S:Mi)(e:En)(Ax seq:Int):Mi × Int × Int:=
 if ¬ (S.put e S.a S.b Ax seq).2=0 then ((S.put e S.a S.b Ax seq).1,S.a,(S.put e S.a S.b Ax seq).2) else
 (((S.put e S.a S.b Ax seq).1.put e S.b S.a Ax seq).1,S.b,((S.put e S.a S.b Ax seq).1.put e S.b S.a Ax seq).2)
theorem A64(A:Aq disp)(hK:10000<K){d:Nat}(hd:17<=d){h:Aa}{m:Nat}{S:Mi}{F:Nat->Prop}(M:Fc h m S F)(hb:HB h){e:En}(w:e.Wf)(Ax seq:Int):
 Ok (Ad TT disp K d false 81 [.ptr m 0,.agg e.cells,I Ax,I seq] h) fun v h'=>v=.tuple [I (S.both e Ax seq).2.1,I (S.both e Ax seq).2.2]/\Fc h' m (S.both e Ax seq).1 F/\Kf F h h'/\HB h':=by
 obtain⟨dd,rfl⟩:∃ k,d=k+1:=⟨d-1,by omega⟩
 rw[Ac7 A (by omega)]
 have el:=En.Ce w
 simp only[Ym,Ab]
 have x1:Ext h (h.new (.cells e.cells 89)):=A9.new _ _
 have g5:(h.new (.cells e.cells 89)).get h.next=some (.cells e.cells 89):=Ag _ _
 have n1:(h.new (.cells e.cells 89)).next=h.next+1:=rfl
 generalize h.new (.cells e.cells 89)=h1 at x1 g5 n1 ⊢
 have hb1:=x1.hb hb
 have M1:=M.ext hb x1
 obtain⟨_,D,p,bl,ql,np,q,c,G,a⟩:=M1.s
 rw[a.J4.oa]
 try simp only[Ab]
 rw[a.J4.ob,Fy g5 rfl,A3 el]
 try simp only[Ab]
 refine(A1v A hK (by omega) M1 hb1 w S.a S.b Ax seq).Al ?_
 rintro _ h2 ⟨rfl,M2,k2,hb2⟩
 have k02:Kf F h h2:=x1.A0c k2
 have g5:=k2.at hb1 g5 (.inr ⟨Nat.le_refl _,by omega⟩)
 unfold Mi.both
 simp only[I,Ai]
 by_cases h0:(S.put e S.a S.b Ax seq).2=0
 ·simp only[h0,not_true_eq_false,decide_false,Ab,if_false,Sx]
  rw[Fy g5 rfl,A3 el]
  try simp only[Ab]
  have M2:=M2.less fun i (hi:F i)=>Or.inl hi
  refine(A1v A hK (by omega) M2 hb2 w S.b S.a Ax seq).Al ?_
  rintro _ h3 ⟨rfl,M3,k3,hb3⟩
  exact .ret ⟨rfl,M3,k02.trans k3,hb3⟩
 ·simp only[h0,not_false_eq_true,decide_true,Ab,if_true]
  exact .ret ⟨rfl,M2.less fun i (hi:F i)=>Or.inl hi,k02,hb2⟩
end Go.Ev

namespace Go.Ev
open Go.Proofs
set_option maxRecDepth 100000
variable {K:Nat}{disp:Nat->Option FT}
theorem A4q(D:Nat)(g:Gm)(p bl n:Nat)(a b u u':Int):(U0 D g p bl n a b u).set 267 (I u')=U0 D g p bl n a b u':=by
 unfold U0
 have hl:([EV.ptr D 0]++gL g++A8).length=263:=by rw[List.length_append,Nw];rfl
 rw[List.set_append_right _ _ (by omega),hl]
 rfl
noncomputable def Mi.Aky(S:Mi):Mi:={ S with u:=Dk .i64 (S.u+1) }
theorem Mi.Wf.Aky {S:Mi}(w:S.Wf):S.Aky.Wf:={ toWp:=⟨w.sm,w.ps⟩,op:=w.op }
theorem As6 {h:Aa}{m:Nat}{S:Mi}{F:Nat->Prop}(M:Fc h m S F)(hb:HB h){kk:Aa->R}{Q:EV->Aa->Prop}(hk:∀ h',Fc h' m S.Aky F->Kf F h h'->HB h'->Ext h h'\/True->h'.next=h.next->(∀ i,F i->h'.get i=h.get i)->Ok (kk h') Q):
 Ok (Av (.ptr m 267) h fun v=>Ar Fx (bin TT .add 3) v (.int .i64 1) fun w=>Dw 1 (.ptr m 267) w h kk) Q:=by
 obtain⟨lt,D,p,bl,ql,np,q,c,G,a⟩:=M.s
 rw[a.J4.ou]
 simp only[I,Ai]
 have ml:=Api D S.g p bl (S.g.D*S.g.Z).toNat S.a S.b S.u
 have lm:=hb _ _ a.J4.J4
 refine Ok.st1 a.J4.J4 rfl rfl (by omega) ?_
 rw[show EV.int .i64 (Dk .i64 (S.u+1))=I (Dk .i64 (S.u+1)) from rfl,A4q]
 have c1:A9 (fun i=>i=m) h (h.put m (.cells (U0 D S.g p bl (S.g.D*S.g.Z).toNat S.a S.b (Dk .i64 (S.u+1))) 149)):=(A9.refl (S:=fun i=>i=m) h).A5 (.inl rfl) lm _
 have a1:=a.Awe hb (Aj _ _ _) c1
 have hF:∀ i,F i->i ≠ m:=fun i hi y=>by subst y;exact a.sub.2.1.2 hi
 refine hk _ ⟨⟨fun i hi=>hi.1,D,p,bl,ql,np,q,c,G,?_⟩,fun i hi=>M.lt i hi,M.wf.Aky⟩ (c1.mono fun i hi y=>hF i y hi) (hb.put lm _) (.inr trivial) rfl (fun i hi=>As _ (Ne.symm (hF i hi)))
 exact a1
noncomputable def Mi.Lx(B:Mi × Int × Int):Mi:=if B.2.1=B.1.b then B.1.Aky else B.1
def Me.zero:Me:=⟨0,0,0,0,0,0⟩
noncomputable def Mi.Qj(e:En)(Ax seq:Int):Nat->Mi->Mi × Me × Int
 | 0,S=>(S,Me.zero,0)
 | n+1,S=>
  if ¬ S.ready.2=0 then (S.ready.1,Me.zero,S.ready.2) else
  if (S.ready.1.both e Ax seq).2.2=0 then ((S.ready.1.both e Ax seq).1.Aky,⟨1,(S.ready.1.both e Ax seq).1.a,(S.ready.1.both e Ax seq).1.b,(S.ready.1.both e Ax seq).1.u,seq,Gl e.bytes⟩,0) else
  if (S.ready.1.both e Ax seq).2.2=34 then ((S.ready.1.both e Ax seq).1,Me.zero,34) else
  if ((Mi.Lx (S.ready.1.both e Ax seq)).Ch (S.ready.1.both e Ax seq).2.1).2=34 then (((Mi.Lx (S.ready.1.both e Ax seq)).Ch (S.ready.1.both e Ax seq).2.1).1,Me.zero,34) else
  Qj e Ax seq n ((Mi.Lx (S.ready.1.both e Ax seq)).Ch (S.ready.1.both e Ax seq).2.1).1
noncomputable def Mi.place(S:Mi)(e:En)(Ax seq:Int):Mi × Me × Int:=
 if ¬ (F4 e 0 0 Ax seq).2=0 then (S,Me.zero,(F4 e 0 0 Ax seq).2) else Mi.Qj e Ax seq 1000 S
noncomputable def Am9(bad:Nat->Int)(n:Nat):Nat:=((List.range n).filter fun i=>¬ bad i=1).length
theorem A68(bad:Nat->Int)(n:Nat):Am9 bad n<=n:=by
 unfold Am9
 have:=List.length_filter_le (fun i=>decide (¬ bad i=1)) (List.range n)
 simpa using this
theorem Az9(bad:Nat->Int){n z:Nat}(hz:z<n)(hb:¬ bad z=1):Am9 (fun i=>if i=z then 1 else bad i) n<Am9 bad n:=by
 unfold Am9
 induction n with
 | zero=>omega
 | succ n ih=>
  rw[List.range_succ,List.filter_append,List.filter_append,List.length_append,List.length_append]
  by_cases h:z=n
  ·subst h
   have e1:((List.range z).filter fun i=>decide (¬ (if i=z then (1:Int) else bad i)=1))=(List.range z).filter fun i=>decide (¬ bad i=1):=by
    refine List.filter_congr fun i hi=>?_
    have:=List.mem_range.1 hi
    rw[if_neg (by omega)]
   have e2:([z].filter fun i=>decide (¬ (if i=z then (1:Int) else bad i)=1)) = []:=by simp
   have e3:([z].filter fun i=>decide (¬ bad i=1)) = [z]:=by simp[hb]
   rw[e1,e2,e3];simp
  ·have:=ih (by omega)
   have e2:([n].filter fun i=>decide (¬ (if i=z then (1:Int) else bad i)=1)) = [n].filter fun i=>decide (¬ bad i=1):=by
    have:¬ n=z:=fun y=>h y.symm
    rw[List.filter_cons,List.filter_cons];simp[this]
   rw[e2];omega
theorem Bax(S:Mi):S.ready.1.g=S.g/\S.ready.1.bad=S.bad:=by
 unfold Mi.ready
 split
 ·exact⟨rfl,rfl⟩
 ·split
  ·exact⟨rfl,rfl⟩
  ·split <;> exact⟨rfl,rfl⟩
theorem Bdj(S:Mi)(e:En)(A7 F6 Ax seq:Int):(S.put e A7 F6 Ax seq).1.g=S.g/\(S.put e A7 F6 Ax seq).1.bad=S.bad/\(S.put e A7 F6 Ax seq).1.a=S.a/\(S.put e A7 F6 Ax seq).1.b=S.b/\(S.put e A7 F6 Ax seq).1.u=S.u/\(S.put e A7 F6 Ax seq).1.ps=S.ps:=by
 unfold Mi.put;split <;> exact⟨rfl,rfl,rfl,rfl,rfl,rfl⟩
theorem Big(S:Mi)(e:En)(Ax seq:Int):(S.both e Ax seq).1.g=S.g/\(S.both e Ax seq).1.bad=S.bad/\(S.both e Ax seq).1.a=S.a/\(S.both e Ax seq).1.b=S.b/\(S.both e Ax seq).1.u=S.u/\(S.both e Ax seq).1.ps=S.ps /\
 ((S.both e Ax seq).2.1=S.a\/(S.both e Ax seq).2.1=S.b):=by
 unfold Mi.both
 obtain⟨a1,a2,a3,a4,a5,a6⟩:=Bdj S e S.a S.b Ax seq
 obtain⟨b1,b2,b3,b4,b5,b6⟩:=Bdj (S.put e S.a S.b Ax seq).1 e S.b S.a Ax seq
 split
 ·exact⟨a1,a2,a3,a4,a5,a6,.inl rfl⟩
 ·exact⟨b1.trans a1,b2.trans a2,b3.trans a3,b4.trans a4,b5.trans a5,b6.trans a6,.inr rfl⟩
theorem Bby(B:Mi × Int × Int):(Mi.Lx B).g=B.1.g/\(Mi.Lx B).bad=B.1.bad/\(Mi.Lx B).a=B.1.a/\(Mi.Lx B).b=B.1.b:=by
 unfold Mi.Lx;split <;> exact⟨rfl,rfl,rfl,rfl⟩
theorem Aup(S:Mi)(z:Int):(S.Ch z).1.g=S.g:=by
 unfold Mi.Ch
 split
 ·rfl
 ·split
  ·rfl
  ·split
   ·rfl
   ·exact(Au8 _).1
theorem Ans {S:Mi}(w:S.Wf){z:Int}(hz:0<=E6 S.g z)(hb:¬ S.bad z.toNat=1):Am9 (S.Ch z).1.bad (S.g.D*S.g.Z).toNat<Am9 S.bad (S.g.D*S.g.Z).toNat:=by
 have hbad:(S.Ch z).1.bad=fun i=>if i=z.toNat then 1 else S.bad i:=by
  unfold Mi.Ch
  rw[if_neg (by omega),if_neg (by unfold Mi.Ag9;rw[decide_eq_false hb,Bool.and_false];simp)]
  split
  ·rfl
  ·exact(Au8 _).2.2.2.2
 rw[hbad]
 refine Az9 S.bad ?_ hb
 rcases Y5 w.sm z with y|⟨_,_,_,y1,y2⟩ <;> omega
theorem Azm {S:Mi}(w:S.Wf)(h:S.ready.2=0):(0<=E6 S.ready.1.g S.ready.1.a/\¬ S.ready.1.bad S.ready.1.a.toNat=1)/\(0<=E6 S.ready.1.g S.ready.1.b/\¬ S.ready.1.bad S.ready.1.b.toNat=1):=by
 rcases w.ready.op with ⟨y,_⟩|y
 ·exfalso
  revert h y
  unfold Mi.ready
  split
  ·rename_i h0;intro _ y;exact h0.1 y
  ·split
   ·rename_i hf;intro y _;exact hf y
   ·cases hp:Adh S.ps S.g.D.toNat with
    | none=>intro y _;simp at y
    | some t=>
     obtain⟨x,y,ps'⟩:=t
     obtain⟨a,b,_,_,_,_,_,_,_,_,dx,_⟩:=Al3 w.ps hp
     intro _ hx
     have hx:x = -1:=hx
     have:=Rq w.sm (z:=x) (by rw[dx.1];omega)
     omega
 ·exact y
theorem Bbd:TT.size 83=some 6/\TT.agg 83=some true:=⟨by kernel_rfl,by kernel_rfl⟩
theorem A0v(A:Aq disp)(hK:10000<K){d:Nat}(hd:19<=d){e:En}(w:e.Wf)(Ax seq:Int){m b5 b8:Nat}:∀ (n f:Nat) (h:Aa) (S:Mi) (F:Nat->Prop),Am9 S.bad (S.g.D*S.g.Z).toNat<n->n<=f->Fc h m S F->HB h->F b5->F b8->b5 ≠ b8 ->
 h.get b5=some (.cells e.cells 89)->h.get b8=some (.cells Me.zero.cells 83) ->
 Ok (Cv (Ad TT disp K d false) (Ad TT disp K d true) K f (.ptr m 0) (I Ax) (I seq) (.ptr b5 0) (.ptr b8 0) h) fun v h'=>v=.tuple [.agg (Mi.Qj e Ax seq n S).2.1.cells,I (Mi.Qj e Ax seq n S).2.2]/\Fc h' m (Mi.Qj e Ax seq n S).1 (fun i=>F i/\¬ i=b8)/\Kf (fun i=>F i/\¬ i=b8) h h'/\HB h':=by
 intro n
 induction n with
 | zero=>intro f h S F hg;omega
 | succ n ih=>
  intro f h S F hg hf M hb f5 f8 n58 g5 g8
  obtain⟨f,rfl⟩:∃ k,f=k+1:=⟨f-1,by omega⟩
  have el:=En.Ce w
  have sub:∀ i,(F i/\¬ i=b8)->F i:=fun i hi=>hi.1
  have fin:∀ (me:Me) (er:Int) (h5:Aa) (S5:Mi),Fc h5 m S5 F->Kf F h h5->HB h5->(S5,me,er)=Mi.Qj e Ax seq (n+1) S ->
   Ok (Dw 6 (.ptr b8 0) (.agg me.cells) h5 fun h=>Ct TT [.c (.ptr b8 0) 83,.v (I er)] h) fun v h'=>v=.tuple [.agg (Mi.Qj e Ax seq (n+1) S).2.1.cells,I (Mi.Qj e Ax seq (n+1) S).2.2]/\Fc h' m (Mi.Qj e Ax seq (n+1) S).1 (fun i=>F i/\¬ i=b8)/\Kf (fun i=>F i/\¬ i=b8) h h'/\HB h':=by
   intro me er h5 S5 M5 k5 hb5 he
   have g85:=k5.at hb g8 f8
   have l8:=hb5 _ _ g85
   refine Ok.st me.cells g85 rfl rfl (Cb rfl) ?_
   rw[Hs (Aj _ _ _) Bbd.1 Bbd.2 rfl,<-he]
   have c8:A9 (fun i=>i=b8) h5 (h5.put b8 (.cells me.cells 83)):=(A9.refl (S:=fun i=>i=b8) h5).A5 (.inl rfl) l8 _
   exact .ret ⟨rfl,(M5.Arx c8 fun i hi _=>hi ▸ f8).less sub,(k5.less sub).trans (c8.mono fun i hi y=>y.2 hi),hb5.put l8 _⟩
  unfold Mi.Qj at fin ⊢
  simp only[Cv]
  refine(A30 A hK M hb (by omega)).Al ?_
  rintro _ h1 ⟨rfl,M1,k1,hb1⟩
  simp only[I,Ai]
  by_cases hr:S.ready.2=0
  ·rw[if_neg (show ¬ ¬ S.ready.2=0 from fun y=>y hr)]at fin ⊢
   have op:=Azm M.wf hr
   have hgr:=(Bax S)
   simp only[hr,not_true_eq_false,decide_false,Ab,R0]
   have g51:=k1.at hb g5 f5
   rw[Fy g51 rfl,A3 el]
   try simp only[Ab]
   refine(A64 A hK (by omega) M1 hb1 w Ax seq).Al ?_
   rintro _ h2 ⟨rfl,M2,k2,hb2⟩
   have k02:Kf F h h2:=k1.trans k2
   have hbg:=Big S.ready.1 e Ax seq
   generalize hB:S.ready.1.both e Ax seq=B at M2 fin hbg ⊢
   obtain⟨T,z,er⟩:=B
   simp only at M2 fin hbg ⊢
   have hnm:z ≠ z->False:=fun y=>y rfl
   simp only[Ab,I,Ai]
   by_cases h0:er=0
   ·rw[if_pos h0]at fin ⊢
    simp only[h0,decide_true,Ab,Bz]
    obtain⟨lt2,D,p,bl,ql,np,q,c,G,a⟩:=M2.s
    have lm:=hb2 _ _ a.J4.J4
    have g52:=k02.at hb g5 f5
    rw[A4 lm (by kernel_rfl),a.J4.oa]
    try simp only[Ab,Bz]
    rw[A4 lm (by kernel_rfl),a.J4.ob]
    try simp only[Ab,Bz]
    rw[A4 lm (by kernel_rfl),a.J4.ou]
    try simp only[Ab,Bz]
    rw[A4 lm (by kernel_rfl),a.J4.table]
    try simp only[Ab,Bz]
    rw[show ∀ k:EV->R,Pe 32 1 (.ptr b5 6) none none none k=k (.slice b5 6 32 32 false) from fun k=>rfl]
    try simp only[Ab,Bz]
    have bs:Bs h2.lift (.slice b5 6 32 32 false) b5 6 e.bytes:=by
     refine⟨32,false,_,e.cells,by rw[w.len],by rw[w.len];omega,by rw[Di];exact g52,rfl,by rw[el,w.len];exact Nat.le_refl _,?_⟩
     unfold En.cells
     rw[w.len]
     show (Dl e.bytes).take 32=_
     rw[List.take_of_length_le (by rw[Cu,w.len];omega)]
    refine Ok.Cs (by kernel_rfl) (by kernel_rfl) (Azc (K:=K) hK bs (F0 hb2) w.u8 (by rw[w.len];omega)) (fun _ _ p=>p.2) ?_
    rintro _ h3' h3 ⟨rfl,_⟩ _ x3
    have hb3:=x3.hb hb2
    have hsl:=A91 w.u8
    simp only[Nk,Ab]
    rw[show Dk .i64 (Int.ofNat (Gl e.bytes))=(Gl e.bytes:Int) from C8 (by show -9223372036854775808<=((Gl e.bytes:Nat):Int);omega) (by show ((Gl e.bytes:Nat):Int)<=_;omega)]
    rw[B6 (l:=(⟨1,T.a,T.b,T.u,seq,Gl e.bytes⟩:Me).cells) rfl]
    try simp only[Ab,Bz]
    rw[O4 (by kernel_rfl)]
    refine Ok.st (⟨1,T.a,T.b,T.u,seq,Gl e.bytes⟩:Me).cells (Ag _ _) rfl rfl (Cb rfl) ?_
    have x4:Ext h3 ((h3.new (.cells [EV.int .i64 0,.int .i64 0,.int .i64 0,.int .i64 0,.int .i64 0,.int .i64 0] 83)).put h3.next (.cells (⟨1,T.a,T.b,T.u,seq,Gl e.bytes⟩:Me).cells 83)):=(A9.new h3 _:Ext _ _).A5 (.inr (Nat.le_refl _)) (Nat.lt_succ_self _) _
    have g15:((h3.new (.cells [EV.int .i64 0,.int .i64 0,.int .i64 0,.int .i64 0,.int .i64 0,.int .i64 0] 83)).put h3.next (.cells (⟨1,T.a,T.b,T.u,seq,Gl e.bytes⟩:Me).cells 83)).get h3.next=some (.cells (⟨1,T.a,T.b,T.u,seq,Gl e.bytes⟩:Me).cells 83):=Aj _ _ _
    have n4:((h3.new (.cells [EV.int .i64 0,.int .i64 0,.int .i64 0,.int .i64 0,.int .i64 0,.int .i64 0] 83)).put h3.next (.cells (⟨1,T.a,T.b,T.u,seq,Gl e.bytes⟩:Me).cells 83)).next=h3.next+1:=rfl
    generalize (h3.new (.cells [EV.int .i64 0,.int .i64 0,.int .i64 0,.int .i64 0,.int .i64 0,.int .i64 0] 83)).put h3.next (.cells (⟨1,T.a,T.b,T.u,seq,Gl e.bytes⟩:Me).cells 83)=h4 at x4 g15 n4 ⊢
    have hb4:=x4.hb hb3
    have x24:Ext h2 h4:=x3.trans x4
    have M4:=M2.ext hb2 x24
    refine As6 M4 hb4 ?_
    intro h5 M5 k5 hb5 _ n5 e5
    have F15:Bq F h2 h4 h3.next:=.inr ⟨x3.next,by omega⟩
    rw[Fy (by rw[e5 _ F15];exact g15) rfl,A3 (n:=6) rfl]
    try simp only[Ab]
    refine fin _ _ h5 T.Aky (M5.less fun i (hi:F i)=>Or.inl hi) (k02.trans (x24.A0c k5)) hb5 rfl
   ·rw[if_neg h0]at fin ⊢
    simp only[h0,decide_false,Ab,Ai]
    by_cases h34:er=34
    ·rw[if_pos h34]at fin ⊢
     simp only[h34,decide_true,Ab]
     rw[B6 (l:=Me.zero.cells) rfl]
     exact fin _ _ h2 T M2 k02 hb2 rfl
    ·rw[if_neg h34]at fin ⊢
     simp only[h34,decide_false,Ab,Q7]
     obtain⟨lt2,D,p,bl,ql,np,q,c,G,a⟩:=M2.s
     rw[a.J4.ob]
     simp only[I,Ai]
     have hz:0<=E6 T.g z/\¬ T.bad z.toNat=1:=by
      obtain⟨e1,e2,e3,e4,_,_,e5⟩:=hbg
      rw[e1,e2]
      rcases e5 with e5|e5
      ·rw[e5];exact op.1
      ·rw[e5];exact op.2
     have go:∀ (h3:Aa),Fc h3 m (Mi.Lx (T,z,er)) F->Kf F h h3->HB h3 ->
      Ok (Jd (Ad TT disp K d false) (Ad TT disp K d true) K (Cv (Ad TT disp K d false) (Ad TT disp K d true) K f) (.ptr m 0) (I Ax) (I seq) (.ptr b5 0) (.ptr b8 0) (I z) h3) fun v h'=>
       v=.tuple [.agg (if ((Mi.Lx (T,z,er)).Ch z).2=34 then (((Mi.Lx (T,z,er)).Ch z).1,Me.zero,(34:Int)) else Mi.Qj e Ax seq n ((Mi.Lx (T,z,er)).Ch z).1).2.1.cells,I (if ((Mi.Lx (T,z,er)).Ch z).2=34 then (((Mi.Lx (T,z,er)).Ch z).1,Me.zero,(34:Int)) else Mi.Qj e Ax seq n ((Mi.Lx (T,z,er)).Ch z).1).2.2] /\
        Fc h' m (if ((Mi.Lx (T,z,er)).Ch z).2=34 then (((Mi.Lx (T,z,er)).Ch z).1,Me.zero,(34:Int)) else Mi.Qj e Ax seq n ((Mi.Lx (T,z,er)).Ch z).1).1 (fun i=>F i/\¬ i=b8)/\Kf (fun i=>F i/\¬ i=b8) h h'/\HB h':=by
      intro h3 M3 k3 hb3
      obtain⟨u1,u2,u3,u4⟩:=Bby (T,z,er)
      simp only at u1 u2 u3 u4
      have hz':0<=E6 (Mi.Lx (T,z,er)).g z/\¬ (Mi.Lx (T,z,er)).bad z.toNat=1:=by rw[u1,u2];exact hz
      have less:=Ans M3.wf hz'.1 hz'.2
      have qg:=Aup (Mi.Lx (T,z,er)) z
      simp only[Jd]
      refine(Apu A hK M3 hb3 (by omega) (Ao9 M3.wf.sm hz'.1)).Al ?_
      rintro _ h4 ⟨rfl,M4,k4,hb4⟩
      have k04:Kf F h h4:=k3.trans k4
      simp only[I,Ai]
      by_cases hq:((Mi.Lx (T,z,er)).Ch z).2=34
      ·rw[if_pos hq]at fin ⊢
       simp only[hq,decide_true,Ab]
       rw[B6 (l:=Me.zero.cells) rfl]
       exact fin _ _ h4 _ M4 k04 hb4 rfl
      ·rw[if_neg hq]
       simp only[hq,decide_false,Ab]
       have g54:=k04.at hb g5 f5
       have g84:=k04.at hb g8 f8
       refine(ih f h4 _ F ?_ (by omega) M4 hb4 f5 f8 n58 g54 g84).mono ?_
       ·rw[qg]
        have e1:(Mi.Lx (T,z,er)).g=S.g:=by rw[u1,hbg.1,hgr.1]
        have e2:(Mi.Lx (T,z,er)).bad=S.bad:=by rw[u2,hbg.2.1,hgr.2]
        rw[e1,e2]at less
        rw[e1];omega
       ·rintro v h5 ⟨ev,M5,k5,hb5⟩
        exact⟨ev,M5,(k04.less sub).trans k5,hb5⟩
     by_cases hzb:z=T.b
     ·simp only[hzb,decide_true,Ab]
      refine As6 M2 hb2 ?_
      intro h3 M3 k3 hb3 _ _ _
      have:=go h3 (by unfold Mi.Lx;rw[if_pos hzb];exact M3) (k02.trans k3) hb3
      rw[hzb]at this
      exact this
     ·simp only[hzb,decide_false,Ab]
      exact go h2 (by unfold Mi.Lx;rw[if_neg hzb];exact M2) k02 hb2
  ·rw[if_pos hr]at fin ⊢
   simp only[hr,not_false_eq_true,decide_true,Ab]
   rw[B6 (l:=Me.zero.cells) rfl]
   exact fin _ _ h1 _ M1 k1 hb1 rfl
theorem A3t(A:Aq disp)(hK:10000<K){d:Nat}(hd:20<=d){h:Aa}{m:Nat}{S:Mi}{F:Nat->Prop}(M:Fc h m S F)(hb:HB h){e:En}(w:e.Wf)(Ax seq:Int):
 Ok (Ad TT disp K d false 34 [.ptr m 0,.agg e.cells,I Ax,I seq] h) fun v h'=>v=.tuple [.agg (S.place e Ax seq).2.1.cells,I (S.place e Ax seq).2.2]/\Fc h' m (S.place e Ax seq).1 F/\Kf F h h'/\HB h':=by
 obtain⟨dd,rfl⟩:∃ k,d=k+1:=⟨d-1,by omega⟩
 rw[Aaz A (by omega)]
 have el:=En.Ce w
 simp only[Wh,Ab]
 rw[show (h.new (.cells e.cells 89)).next=h.next+1 from rfl]
 have x1:Ext h ((h.new (.cells e.cells 89)).new (.cells Me.zero.cells 83)):=(A9.new _ _).Fp _
 have g5:((h.new (.cells e.cells 89)).new (.cells Me.zero.cells 83)).get h.next=some (.cells e.cells 89):=by
  rw[Bd _ (Nat.lt_succ_self _)];exact Ag _ _
 have g8:((h.new (.cells e.cells 89)).new (.cells Me.zero.cells 83)).get (h.next+1)=some (.cells Me.zero.cells 83):=Ag _ _
 have n1:((h.new (.cells e.cells 89)).new (.cells Me.zero.cells 83)).next=h.next+2:=rfl
 rw[show (C7.cells [EV.int .i64 0,.int .i64 0,.int .i64 0,.int .i64 0,.int .i64 0,.int .i64 0] 83)=.cells Me.zero.cells 83 from rfl]
 generalize (h.new (.cells e.cells 89)).new (.cells Me.zero.cells 83)=h1 at x1 g5 g8 n1 ⊢
 have hb1:=x1.hb hb
 rw[Fy g5 rfl,A3 el]
 try simp only[Ab]
 refine(Ae7 (K:=K) w hb1 hK 0 0 Ax seq).Al ?_
 rintro _ h2 ⟨rfl,x2⟩
 have hb2:=x2.hb hb1
 have fw:=Amj w 0 0 Ax seq
 unfold Mi.place
 generalize F4 e 0 0 Ax seq=fe at fw ⊢
 obtain⟨f,er⟩:=fe
 have fl:=Fr.Ce fw
 have zl:=Fr.Ce Fr.Nz
 simp only[Ab,Aqv]
 refine Ok.st f.cells (Ag _ _) rfl (by show Jh f.cells=49;rw[B8,fl]) (Cb (by rw[zl];exact fl.symm)) ?_
 have x3:Ext h2 ((h2.new (.cells Fr.zero.cells 120)).put h2.next (.cells f.cells 120)):=(A9.new h2 _:Ext _ _).A5 (.inr (Nat.le_refl _)) (Nat.lt_succ_self _) _
 generalize (h2.new (.cells Fr.zero.cells 120)).put h2.next (.cells f.cells 120)=h3 at x3 ⊢
 have hb3:=x3.hb hb2
 have x03:Ext h h3:=(x1.trans x2).trans x3
 have x13:Ext h1 h3:=x2.trans x3
 have M3:=M.ext hb x03
 have g5:=x13.at hb1 g5
 have g8:=x13.at hb1 g8
 have ln:h.next+2<=h3.next:=by have:=x13.next;omega
 simp only[I,Ai]
 by_cases he:er=0
 ·subst he
  simp only[not_true_eq_false,decide_false,Ab,if_false,Rx]
  have gl:=A68 S.bad (S.g.D*S.g.Z).toNat
  have:(S.g.D*S.g.Z).toNat<=512:=by
   have h1:=M.wf.sm.d1;have h2:=M.wf.sm.z1;have h3:=M.wf.sm.d0;have h4:=M.wf.sm.z0
   obtain⟨m0,m1⟩:=X2 (a:=S.g.D) (b:=S.g.Z) (A:=8) (B:=64) (by omega) (by omega) (by omega) (by omega)
   omega
  refine(A0v A hK (by omega) w Ax seq 1000 K h3 S (Bq F h h3) (by omega) (by omega) M3 hb3 (.inr ⟨by omega,by omega⟩) (.inr ⟨by omega,by omega⟩) (by omega) g5 g8).mono ?_
  rintro v h4 ⟨ev,M4,k4,hb4⟩
  refine⟨ev,M4.less fun i (hi:F i)=>⟨.inl hi,fun y=>by have:=M.lt i hi;omega⟩,?_,hb4⟩
  exact A9.then (S:=fun i=>¬ F i) (Ext.to x03) k4 fun i y hl z=>y ⟨.inl z,fun y=>by have:=M.lt i z;omega⟩
 ·simp only[he,not_false_eq_true,decide_true,Ab,if_true]
  rw[B6 (l:=Me.zero.cells) rfl]
  refine Ok.st Me.zero.cells g8 rfl rfl (Cb rfl) ?_
  rw[Hs (Aj _ _ _) Bbd.1 Bbd.2 rfl]
  have l8:=hb3 _ _ g8
  have x4:Ext h (h3.put (h.next+1) (.cells Me.zero.cells 83)):=x03.A5 (.inr (by omega)) l8 _
  exact .ret ⟨rfl,(M.ext hb x4).less fun i (hi:F i)=>Or.inl hi,x4.kf,hb3.put l8 _⟩
end Go.Ev
