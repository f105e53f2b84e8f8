import Derived.Test.YtpkcfamminlmaaaGreatZa
import Derived.Test.YtpkcfamminlmaaaGreatXc
set_option linter.unusedVariables false
set_option linter.unusedSimpArgs false
set_option linter.unusedSectionVars false
namespace Go.Ev
open Go.Proofs
set_option maxRecDepth 100000
variable {K:Nat}{disp:Nat->Option FT}
theorem Af0 {x y:List EV}(hx:x.length=64)(hy:y.length=64):(O3 x y).length=64:=by unfold O3;rw[List.length_zipWith,hx,hy];rfl
theorem U8.at {x:List EV}(u:U8 x){i:Nat}(hi:i<x.length):∃ a:Nat,a<256/\x[i]=.int .u8 (Int.ofNat a):=by
 obtain⟨l,hl,rfl⟩:=u
 rw[Fh]at hi
 exact⟨l[i],hl _ (List.getElem_mem _),by simp[I6]⟩
theorem U8.xor {x y:List EV}(ux:U8 x)(uy:U8 y):U8 (O3 x y):=by
 obtain⟨a,ha,rfl⟩:=ux
 obtain⟨b,hb,rfl⟩:=uy
 refine⟨List.zipWith Nat.xor a b,fun c hc=>?_,?_⟩
 ·obtain⟨i,hi,rfl⟩:=List.getElem_of_mem hc
  rw[List.getElem_zipWith]
  rw[List.length_zipWith]at hi
  exact Nat.xor_lt_two_pow (n:=8) (ha _ (List.getElem_mem _)) (hb _ (List.getElem_mem _))
 ·unfold O3 I6
  rw[List.zipWith_map,List.map_zipWith]
  rfl
theorem Ax8 {h0:Aa}{b2 b3 b4:Nat}{x y:List EV}(hx:x.length=64)(hy:y.length=64)(ux:U8 x)(uy:U8 y)(l2:h0.next<=b2)(l3:b2<b3)(l4:b3<b4):∀ (m i:Nat) (h:Aa) (l:List EV),64-i<m->i<=64->HB h->Ext h0 h ->
 h.get b2=some (.cells l 103)->l.length=64->(∀ j,j<64->l[j]? = if j<i then (O3 x y)[j]? else x[j]?)->h.get b3=some (.cells y 103)->h.get b4=some (.cells Y5 103) ->
 Ok (Dn K m (.ptr b2 0) (.ptr b3 0) (.ptr b4 0) (.int .i64 (i:Int)) h) fun v h'=>v=.agg (O3 x y)/\Ext h0 h'/\HB h':=by
 intro m
 induction m with
 | zero=>intro i h l hm;omega
 | succ m ih=>
  intro i h l hm hi hb c g2 hl hj g3 g4
  have lt2:=hb _ _ g2
  have lt3:=hb _ _ g3
  have lt4:=hb _ _ g4
  simp only[Dn,Ah]
  by_cases hlt:i<64
  ·rw[decide_eq_true (show (i:Int)<64 by omega)]
   obtain⟨a,ha,ea⟩:=ux.at (i:=i) (by omega)
   obtain⟨b,hb',eb⟩:=uy.at (i:=i) (by omega)
   have e2:l[i]? = some (.int .u8 (Int.ofNat a)):=by rw[hj i hlt,if_neg (Nat.lt_irrefl _),List.getElem?_eq_getElem (by omega),ea]
   have e3:y[i]? = some (.int .u8 (Int.ofNat b)):=by rw[List.getElem?_eq_getElem (by omega),eb]
   have ex:(O3 x y)[i]? = some (Nk .u8 (a ^^^ b)):=by
    unfold O3
    rw[List.getElem?_zipWith,List.getElem?_eq_getElem (show i<x.length by omega),ea,e3];rfl
   simp only[Ab,R3,Nn hlt,Nat.zero_add,Nat.mul_one]
   rw[As lt2 (by kernel_rfl),Az g2 rfl e2,As lt3 (by kernel_rfl),Az g3 rfl e3,A0u ha hb',U9 (by kernel_rfl)]
   refine Ok.st1 g2 rfl rfl (by omega) ?_
   simp only[Sp,Ah]
   rw[Cu (by omega) (by omega)]
   refine ih (i+1) _ (l.set i (Nk .u8 (a ^^^ b))) (by omega) (by omega) (hb.put lt2 _) (c.A3 (.inr l2) lt2 _) (Ai _ _ _) (by rw[List.length_set];exact hl) (fun j hj'=>?_) ?_ ?_
   ·rw[List.getElem?_set]
    by_cases hji:i=j
    ·subst hji;rw[if_pos rfl,if_pos (by omega),if_pos (by omega),ex]
    ·rw[if_neg hji,hj j hj']
     by_cases h1:j<i
     ·rw[if_pos h1,if_pos (by omega)]
     ·rw[if_neg h1,if_neg (by omega)]
   ·rw[Am _ (by omega)];exact g3
   ·rw[Am _ (by omega)];exact g4
  ·have:i=64:=by omega
   subst this
   have el:l=O3 x y:=by
    refine List.ext_getElem? fun j=>?_
    by_cases h1:j<64
    ·rw[hj j h1,if_pos h1]
    ·rw[List.getElem?_eq_none (by omega),List.getElem?_eq_none (by rw[Af0 hx hy];omega)]
   subst el
   simp only[show ¬ ((64:Nat):Int)<64 by omega,decide_false,Ab,M8]
   rw[F2 g2 rfl,Aw hl]
   simp only[Ab]
   refine Ok.st (O3 x y) g4 rfl (by show Jz (O3 x y)=64;rw[Dq,hl]) (Fy (by rw[Af5];exact hl.symm)) ?_
   rw[K1 (Ai _ _ _) Al4.1 Al4.2 hl]
   exact .ret ⟨rfl,c.A3 (.inr (by omega)) lt4 _,hb.put lt4 _⟩
theorem Aza {h:Aa}{x y:List EV}(hx:x.length=64)(hy:y.length=64)(ux:U8 x)(uy:U8 y)(hb:HB h)(hK:100<K):
 Ok (Jp K (.agg x) (.agg y) h) fun v h'=>v=.agg (O3 x y)/\Ext h h'/\HB h':=by
 simp only[Jp,Ab]
 have x1:Ext h (((h.new (.cells x 103)).new (.cells y 103)).new (.cells (List.replicate 64 (.int .u8 0)) 103)):=((A6.new _ _).Gw _).Gw _
 refine Ax8 (h0:=h) (x:=x) (y:=y) hx hy ux uy (b2:=h.next) (b3:=h.next+1) (b4:=h.next+2) (Nat.le_refl _) (by omega) (by omega) K 0 _ x (by omega) (by omega) (x1.hb hb) x1 ?_ hx (fun j _=>by rw[if_neg (Nat.not_lt_zero _)]) ?_ (Ae _ _)
 ·rw[Bn _ (by show h.next<h.next+1+1;omega),Bn _ (by show h.next<h.next+1;omega)];exact Ae _ _
 ·rw[Bn _ (by show h.next+1<h.next+1+1;omega)];exact Ae _ _
theorem Axj(A:Ap disp){e:Nat}(he:2<=e){h:Aa}{b:Nat}{x p:List EV}(hg:h.get b=some (.cells p 103))(hx:x.length=64)(hp:p.length=64)(ux:U8 x)(up:U8 p)(hb:HB h)(hK:100<K):
 Ok (Uq (Ad TT disp K e false) (Ad TT disp K e true) (.func 239 [] [.ptr b 0]) [.agg x] h) fun v h'=>v=.agg (O3 x p)/\Ext h h'/\HB h':=by
 obtain⟨d,rfl⟩:∃ k,e=k+1:=⟨e-1,by omega⟩
 show Ok (Ad TT disp K (d+1) false 239 [.agg x,.ptr b 0] h) _
 rw[Wc A (by omega)]
 simp only[Sq,Ab]
 have x1:Ext h ((h.new (.cells x 103)).new (.cells (List.replicate 64 (.int .u8 0)) 103)):=(A6.new _ _).Gw _
 have g2:((h.new (.cells x 103)).new (.cells (List.replicate 64 (.int .u8 0)) 103)).get h.next=some (.cells x 103):=by
  rw[Bn _ (by show h.next<h.next+1;omega)];exact Ae _ _
 have g3:((h.new (.cells x 103)).new (.cells (List.replicate 64 (.int .u8 0)) 103)).get (h.next+1)=some (.cells Y5 103):=Ae _ _
 rw[show (h.new (.cells x 103)).next=h.next+1 from rfl]
 generalize (h.new (.cells x 103)).new (.cells (List.replicate 64 (.int .u8 0)) 103)=h1 at x1 g2 g3 ⊢
 have hb1:=x1.hb hb
 have gb:=x1.at hb hg
 rw[F2 g2 rfl,Aw hx]
 simp only[Ab]
 rw[F2 gb rfl,Aw hp]
 simp only[Ab]
 refine(Aza (K:=K) hx hp ux up hb1 hK).Aj ?_
 rintro _ h2 ⟨rfl,x2,hb2⟩
 have g3:=x2.at hb1 g3
 have hl:=Af0 hx hp
 refine Ok.st (O3 x p) g3 rfl (by show Jz (O3 x p)=64;rw[Dq,hl]) (Fy (by rw[Af5];exact hl.symm)) ?_
 rw[K1 (Ai _ _ _) Al4.1 Al4.2 hl]
 exact .ret ⟨rfl,(x1.trans x2).A3 (.inr (by omega)) (hb2 _ _ g3) _,hb2.put (hb2 _ _ g3) _⟩
end Go.Ev

namespace Go.Ev
open Go.Proofs
set_option maxRecDepth 100000
variable {K:Nat}{disp:Nat->Option FT}
theorem Afi:∀ (l vs:List EV),vs.length<=l.length->Gi l vs=some (vs++l.drop vs.length)
 | l,[],_=>by cases l <;> rfl
 | [],_::_,h=>by simp at h
 | a::l,v::vs,h=>by
  show (match Gi l vs with|some x=>some (v::x)|none=>none)=_
  rw[Afi l vs (by simpa using h)];rfl
theorem Afs:∀ (l:List EV) (off:Nat) (vs:List EV),off+vs.length<=l.length->Em l off vs=some (l.take off++vs++l.drop (off+vs.length))
 | [],off,vs,h=>by
  have h0:off=0/\vs = []:=by simp at h;exact⟨h.1,h.2⟩
  obtain⟨rfl,rfl⟩:=h0;rfl
 | a::l,0,vs,h=>by
  show Gi (a::l) vs=_
  rw[Afi _ _ (by omega)];simp
 | a::l,off+1,vs,h=>by
  show (match Em l off vs with|some x=>some (a::x)|none=>none)=_
  rw[Afs l off vs (by simp at h;omega)]
  simp only[List.take_succ_cons,List.cons_append]
  rw[show off+1+vs.length=(off+vs.length)+1 by omega,List.drop_succ_cons]
theorem Xn {l vs:List EV}{off:Nat}(h:off+vs.length<=l.length):Jl l off vs=some (l.take off++vs++l.drop (off+vs.length)):=by rw[We,Afs _ _ _ h]
theorem Abw {n:Nat}:∀ (l:List (List EV)),(∀ x ∈ l,x.length=n)->l.flatten.length=l.length*n
 | [],_=>by simp
 | a::l,hw=>by
  rw[List.flatten_cons,List.length_append,Abw l fun x hx=>hw x (List.mem_cons_of_mem _ hx),hw a (List.mem_cons_self ..),List.length_cons,Nat.add_mul];omega
theorem Akg {n:Nat}{l:List (List EV)}(hw:∀ x ∈ l,x.length=n){j:Nat}(hj:j<l.length):l.flatten=(l.take j).flatten++l[j]++(l.drop (j+1)).flatten/\(l.take j).flatten.length=j*n/\l[j].length=n:=by
 refine⟨?_,?_,hw _ (List.getElem_mem _)⟩
 ·have:l=l.take j++l[j]::l.drop (j+1):=by rw[<-List.drop_eq_getElem_cons hj,List.take_append_drop]
  conv=>lhs;rw[this]
  rw[List.flatten_append,List.flatten_cons,List.append_assoc]
 ·rw[Abw (n:=n) _ fun x hx=>hw x (List.mem_of_mem_take hx),List.length_take,Nat.min_eq_left (by omega)]
theorem Av9 {n:Nat}{l:List (List EV)}(hw:∀ x ∈ l,x.length=n){j:Nat}(hj:j<l.length):N0 l.flatten (j*n) n=some l[j]:=by
 obtain⟨e,h1,h2⟩:=Akg hw hj
 rw[e,K2 (by rw[List.length_append,List.length_append,h1,h2];omega),<-h1,List.append_assoc,List.drop_left,<-h2,List.take_left]
theorem Awa {n:Nat}{l:List (List EV)}(hw:∀ x ∈ l,x.length=n){j:Nat}(hj:j<l.length){v:List EV}(hv:v.length=n):Jl l.flatten (j*n) v=some (l.set j v).flatten:=by
 obtain⟨e,h1,h2⟩:=Akg hw hj
 have e2:(l.set j v).flatten=(l.take j).flatten++v++(l.drop (j+1)).flatten:=by
  rw[List.set_eq_take_append_cons_drop,if_pos hj,List.flatten_append,List.flatten_cons,List.append_assoc]
 have hl:l.flatten.length=j*n+n+(l.drop (j+1)).flatten.length:=by rw[e,List.length_append,List.length_append,h1,h2]
 have t1:l.flatten.take (j*n)=(l.take j).flatten:=by rw[e,List.append_assoc,<-h1,List.take_left]
 have t2:l.flatten.drop (j*n+n)=(l.drop (j+1)).flatten:=by
  rw[show j*n+n=((l.take j).flatten++l[j]).length by rw[List.length_append,h1,h2],e,List.drop_left]
 rw[Xn (by rw[hl,hv];omega),hv,t1,t2,e2]
def Zn.change(Z:Zn)(off:Int)(p:List EV):Zn:=if 0<=off/\off<Z.l.length then { Z with l:=Z.l.set off.toNat (O3 (((Z.l[off.toNat]?).getD Y5)) p) } else Z
theorem Zn.Wf.change {Z:Zn}{size:Nat}(w:Z.Wf size)(off:Int){p:List EV}(hp:U8 p):(Z.change off p).Wf size:=by
 unfold Zn.change
 split
 ·refine⟨fun x hx=>?_,w.st,by simp only[List.length_set];exact w.safe,by simp only[List.length_set];exact w.len,by simp only[List.length_set];exact w.room⟩
  rcases List.mem_or_eq_of_mem_set hx with hx|hx
  ·exact w.u8 x hx
  ·rw[hx]
   refine U8.xor ?_ hp
   cases hg:Z.l[off.toNat]? with
   | none=>exact U8.zs
   | some y=>exact w.u8 _ (List.mem_of_getElem? hg)
 ·exact w
theorem Akr(A:Ap disp){e:Nat}(he:2<=e){h:Aa}{z q size:Nat}{Z:Zn}(zz:D3 h z q size Z)(w:Z.Wf size)(hs:size<=64)(hb:HB h)(off:Int){b:Nat}{p:List EV}(hg:h.get b=some (.cells p 103))(hp:p.length=64)(up:U8 p)(hK:100<K):
 Ok (Gv (Ad TT disp K e false) (Ad TT disp K e true) K (.ptr z 0) (I off) (.func 239 [] [.ptr b 0]) h) fun v h'=>v=I (if 0<=off/\off<Z.l.length then 0 else 31)/\D3 h' z q size (Z.change off p)/\A6 (fun j=>Z.l ≠ []/\j=q) h h'/\HB h':=by
 obtain⟨s,g,r⟩:=zz.B5
 have lz:=hb _ _ g
 have no:¬ (0<=off/\off<Z.l.length)->Ok (some (I 31,h)) fun v h'=>v=I (if 0<=off/\off<Z.l.length then 0 else 31)/\D3 h' z q size (Z.change off p)/\A6 (fun j=>Z.l ≠ []/\j=q) h h'/\HB h':=fun hn=>by
  unfold Zn.change
  rw[if_neg hn,if_neg hn]
  exact .ret ⟨rfl,zz,A6.refl _,hb⟩
 simp only[Gv,I,Ah]
 by_cases h0:off<0
 ·rw[decide_eq_true h0]
  simp only[Ab,Ah,Cr]
  exact no fun y=>by omega
 ·rw[decide_eq_false h0]
  simp only[Ab,Ah,Cn g rfl,r.I4]
  by_cases h1:(Z.l.length:Int)<=off
  ·rw[decide_eq_true h1]
   simp only[Ab,Cr]
   exact no fun y=>by omega
  ·rw[decide_eq_false h1]
   obtain⟨j,rfl⟩:∃ j:Nat,off=j:=⟨off.toNat,by omega⟩
   have hj:j<Z.l.length:=by omega
   have rb:=r.block (by omega)
   have lq:=hb _ _ rb
   have hyes:(0:Int)<=(j:Int)/\(j:Int)<Z.l.length:=by omega
   unfold Zn.change
   rw[if_pos hyes,if_pos hyes,Int.toNat_natCast,List.getElem?_eq_getElem hj,Option.getD_some]
   obtain⟨_,hj64⟩:=(Akg zz.wf hj).2
   simp only[Ab,Cr,Ig,Bh]
   rw[As lz (by kernel_rfl),Cn g rfl]
   simp only[Ab,Bh]
   rw[As lz (by kernel_rfl),Cn g rfl]
   simp only[Ab,Bh,r.ix hj]
   rw[As lq (by kernel_rfl),Gk rb rfl (Av9 zz.wf hj)]
   simp only[Bh]
   refine Ok.Ct (by kernel_rfl) (by kernel_rfl) (Axj (K:=K) A he (h:=h.lift) (by rw[Cj];exact hg) hj64 hp (w.u8 _ (List.getElem_mem _)) up (E8 hb) hK) (fun _ _ p=>p.2.1) ?_
   rintro _ h1 h2 ⟨rfl,_,hb1⟩ sm x2
   have hb2:=x2.hb hb
   have rb2:=x2.at hb rb
   have hl:=Af0 hj64 hp
   rw[U9 (by kernel_rfl),A19 (v:=.agg (O3 Z.l[j] p)) rb2 rfl (by show Jz (O3 Z.l[j] p)=64;rw[Dq,hl]) (Awa zz.wf hj hl)]
   have lq2:=hb2 _ _ rb2
   refine .ret ⟨rfl,⟨⟨s,?_,?_⟩,fun x hx=>?_⟩,(Ext.to x2).A3 (.inl ⟨fun y=>by rw[y]at hj;simp at hj,rfl⟩) lq2 _,hb2.put lq2 _⟩
   ·rw[Am _ (Bf rb g (by simp))];exact x2.at hb g
   ·refine .inr ⟨by rw[List.length_set];omega,by rw[List.length_set];exact r.slice (by omega),Ai _ _ _,?_⟩
    rw[Abw (n:=64),List.length_set]
    intro x hx
    rcases List.mem_or_eq_of_mem_set hx with hx|hx
    ·exact zz.wf x hx
    ·rw[hx];exact hl
   ·rcases List.mem_or_eq_of_mem_set hx with hx|hx
    ·exact zz.wf x hx
    ·rw[hx];exact hl
theorem Aob(A:Ap disp){d:Nat}(hd:4<=d){h:Aa}{V:Nat}{D:Dv}{F:Nat->Prop}(s:Ft h V D F)(hb:HB h)(hK:100<K)(z off:Int){p:List EV}(hp:p.length=64)(up:U8 p):
 Ok (Ad TT disp K d false 225 [.ptr V 0,I z,I off,.agg p] h) fun v h'=>(∃ n:Int,v=I n/\(n=0 ↔ D.has z=true/\0<=off/\off<(D.zs z.toNat).l.length))/\Ft h' V (D.Al8 z off p) (Bw F h h')/\A6 F h h'/\HB h':=by
 obtain⟨e,rfl⟩:∃ k,d=k+1:=⟨d-1,by omega⟩
 rw[Yx A (by omega)]
 simp only[Uy,Ab]
 have x1:Ext h (h.new (.cells p 103)):=A6.new _ _
 have g5:(h.new (.cells p 103)).get h.next=some (.cells p 103):=Ae _ _
 have hb1:HB (h.new (.cells p 103)):=hb.new _
 have s1:=s.ext x1
 generalize h.new (.cells p 103)=h1 at x1 g5 hb1 s1 ⊢
 rw[Xv s1]
 unfold Dv.Al8
 cases hh:D.has z with
 | false=>
  simp only[Ab,Bool.false_eq_true,false_and,if_false]
  exact .ret ⟨⟨13,rfl,by simp⟩,s1.grow s.lt x1.next,Ext.to x1,hb1⟩
 | true=>
  have hz:=of_decide_eq_true hh
  obtain⟨j,rfl⟩:∃ j:Nat,z=j:=⟨z.toNat,by omega⟩
  have hj:j<D.n:=by omega
  obtain⟨w,wl,zl,zp,q,a,b⟩:=s1
  have w':=w.zs j hj
  simp only[Ab,Rj,a.list,a.Ayp hj,Int.toNat_natCast,true_and]
  obtain⟨f,rfl⟩:∃ k,e=k+1:=⟨e-1,by omega⟩
  rw[Od A (by omega)]
  refine(Akr (K:=K) (e:=f) A (by omega) (a.B5 j hj) w' w.size hb1 off g5 hp up hK).Aj ?_
  rintro _ h2 ⟨rfl,z2,c2,hb2⟩
  obtain⟨d3,c23⟩:=Ft.B5 w a b wl hb1 hj (w'.change off up) z2 (c2.mono fun _=>.inr) hb2 (fun y=>.inr ⟨rfl,fun e=>y (by unfold Zn.change;split <;> simp[e])⟩)
  refine .ret ⟨⟨_,rfl,by split <;> simp_all⟩,?_,(Ext.to x1).trans c23,hb2⟩
  have d4:Ft h2 V (D.set j ((D.zs j).change off p)) (Bw F h h2):=d3.mono (fun i hi=>by
   rcases hi with y|y
   ·exact .inl y
   ·exact .inr ⟨Nat.le_trans x1.next y.1,y.2⟩) (Bw.lt s.lt (Nat.le_trans x1.next c23.next))
  unfold Zn.change at d4
  split
  ·rename_i hc
   rw[if_pos hc]at d4;exact d4
  ·rename_i hc
   rw[if_neg hc]at d4
   have e:D.set j (D.zs j)=D:=by
    unfold Dv.set
    have:Nc D.zs j (D.zs j)=D.zs:=by funext i;unfold Nc;split <;> simp_all
    rw[this]
   rw[e]at d4;exact d4
end Go.Ev

namespace Go.Ev
open Go.Proofs
set_option maxRecDepth 100000
variable {K:Nat}{disp:Nat->Option FT}
theorem Vt.len {e:Vt}(w:e.Wf):e.cells.length=68:=by unfold Vt.cells;rw[List.length_append,w.len];rfl
theorem Vt.Azp {e:Vt}(w:e.Wf):N0 e.cells 4 64=some e.pat:=by
 rw[K2 (by rw[Vt.len w];omega)]
 show some ((e.pat).take 64)=_
 rw[List.take_of_length_le (by rw[w.len];omega)]
theorem Vt.one(e:Vt):e.cells[0]? = some (I e.Rk)/\e.cells[1]? = some (I e.kind)/\e.cells[2]? = some (I e.B5)/\e.cells[3]? = some (I e.off):=⟨rfl,rfl,rfl,rfl⟩
theorem Ej.call {h h3 h4:Aa}{D V M qc qh:Nat}{cs hs:EV}{ms:List (EV × EV)}{S:I2}{F G:Nat->Prop}{dv:Dv}(s:Ej h D S G)(a:T8 h D V M qc qh cs hs ms S F G)(hb:HB h)(d3:Ft h3 V dv (Bw F h.lift h3))(sm:Afh h3 h4)(c4:A6 F h h4):
 Ej h4 D { S with dv:=dv } (Bw G h h4)/\A6 G h h4/\T8 h4 D V M qc qh cs hs ms { S with dv:=dv } (Bw F h h4) (Bw G h h4):=by
 have d4:Ft h4 V dv (Bw F h h4):=by
  have:=d3.frame (h':=h4) (by rw[sm.next];exact Nat.le_refl _) fun j _=>sm.get j
  refine this.mono (fun j hj=>?_) (Bw.lt a.dev.lt c4.next)
  rcases hj with y|y
  ·exact .inl y
  ·exact .inr ⟨y.1,by rw[sm.next];exact y.2⟩
 have:=s.put a hb d4 c4
 exact⟨this.1,this.2,a.put hb d4 c4⟩
theorem Anj(A:Ap disp)(hK:1000<K){d:Nat}(hd:6<=d){h:Aa}{D:Nat}{S:I2}{G:Nat->Prop}(s:Ej h D S G)(hb:HB h){e:Vt}(w:e.Wf):
 Ok (Ad TT disp K d false 205 [.ptr D 0,.agg e.cells] h) fun v h'=>Ej h' D { S with dv:=S.dv.Al8 e.B5 e.off e.pat } (Bw G h h')/\A6 G h h'/\HB h':=by
 obtain⟨dd,rfl⟩:∃ k,d=k+1:=⟨d-1,by omega⟩
 rw[Aa9 A (by omega)]
 simp only[Wl,Ab]
 have x1:Ext h (h.new (.cells e.cells 105)):=A6.new _ _
 have g3:(h.new (.cells e.cells 105)).get h.next=some (.cells e.cells 105):=Ae _ _
 have hb1:HB (h.new (.cells e.cells 105)):=hb.new _
 have s1:=s.ext x1
 have n1:(h.new (.cells e.cells 105)).next=h.next+1:=rfl
 generalize h.new (.cells e.cells 105)=h1 at x1 g3 hb1 s1 n1 ⊢
 have nx:¬ G h.next:=fun y=>Nat.lt_irrefl _ (s.lt _ y)
 obtain⟨V,M,qc,qh,cs,hs,ms,F,a⟩:=s1.Rk
 have lD:=hb1 _ _ a.C1
 have l3:=hb1 _ _ g3
 obtain⟨_,_,e2,e3⟩:=e.one
 rw[As lD (by kernel_rfl),Cn a.C1 rfl]
 try simp only[Ab,Bh]
 rw[As l3 (by kernel_rfl),Az g3 rfl e2]
 try simp only[Ab,Bh]
 rw[As l3 (by kernel_rfl),Az g3 rfl e3]
 try simp only[Ab,Bh]
 rw[As l3 (by kernel_rfl),Gk g3 rfl (Vt.Azp w)]
 try simp only[Ab,Bh]
 refine Ok.Ak5 (S:=F) (by kernel_rfl) (by kernel_rfl) (fun _=>by kernel_rfl) (Aob (K:=K) A (by omega) a.dev.lift (E8 hb1) (by omega) e.B5 e.off w.len w.u8) (fun _ _ p=>p.2.2.1) ?_
 rintro _ h3 h4 s' ⟨⟨n,rfl,_⟩,d3,_,hb3⟩ sm c4 _
 obtain⟨s4,c14,a4⟩:=s1.call a hb1 d3 sm c4
 have hb4:=sm.hb hb3
 have g3:=c14.at hb1 g3 nx
 have fin:∀ (h5:Aa) (G5:Nat->Prop),Ej h5 D { S with dv:=S.dv.Al8 e.B5 e.off e.pat } G5->(∀ i,G5 i->Bw G h h5 i)->A6 (Bw G h1 h4) h4 h5->HB h5->Ok (some (.tuple [],h5)) fun v h'=>Ej h' D { S with dv:=S.dv.Al8 e.B5 e.off e.pat } (Bw G h h')/\A6 G h h'/\HB h':=fun h5 G5 s5 g5 c5 hb5=>by
  have cc:A6 G h h5:=((Ext.to x1).trans c14).then c5 fun j hj hl=>by
   rcases hj with y|y
   ·exact y
   ·omega
  exact .ret ⟨s5.mono g5 (Bw.lt s.lt cc.next),cc,hb5⟩
 have gr:∀ h5:Aa,h4.next<=h5.next->∀ i,Bw G h1 h4 i->Bw G h h5 i:=fun h5 l i hi=>by
  rcases hi with y|y
  ·exact .inl y
  ·exact .inr ⟨by omega,by omega⟩
 simp only[Ah,I]
 by_cases hn:n=0
 ·subst hn
  simp only[not_true_eq_false,decide_false,Ab,Si]
  rw[Az g3 rfl e2]
  try simp only[Ab]
  rw[Az g3 rfl e3]
  rw[Ca (l:=[I e.B5,I e.off]) rfl]
  try simp only[Ab]
  have x5:Ext h4 (h4.new (.cells [I 0,I 0] 243)):=A6.new _ _
  have g4':(h4.new (.cells [I 0,I 0] 243)).get h4.next=some (.cells [I 0,I 0] 243):=Ae _ _
  refine Ok.st [I e.B5,I e.off] (o:=0) (l:=[I 0,I 0]) (Ae _ _) rfl rfl rfl ?_
  have x5:Ext h4 ((h4.new (.cells [I 0,I 0] 243)).put h4.next (.cells [I e.B5,I e.off] 243)):=(A6.new h4 _:Ext _ _).A3 (.inr (Nat.le_refl _)) (Nat.lt_succ_self _) _
  have g4:((h4.new (.cells [I 0,I 0] 243)).put h4.next (.cells [I e.B5,I e.off] 243)).get h4.next=some (.cells [I e.B5,I e.off] 243):=Ai _ _ _
  have n5:((h4.new (.cells [I 0,I 0] 243)).put h4.next (.cells [I e.B5,I e.off] 243)).next=h4.next+1:=rfl
  simp only[I]at x5 g4 n5 ⊢
  generalize (h4.new (.cells [EV.int .i64 0,.int .i64 0] 243)).put h4.next (.cells [.int .i64 e.B5,.int .i64 e.off] 243)=h5 at x5 g4 n5 ⊢
  have hb5:=x5.hb hb4
  have s5:=s4.ext x5
  have g3:=x5.at hb4 g3
  have a5:=a4.frame x5.next fun i hi=>x5.get i (s4.lt i hi) id
  have lD5:=hb5 _ _ a5.C1
  have l45:=hb5 _ _ g4
  have l35:=hb5 _ _ g3
  rw[As lD5 (by kernel_rfl),Cn a5.C1 rfl]
  try simp only[Ab,Bh]
  rw[As l45 (by kernel_rfl),Gk g4 rfl (Aw (n:=2) rfl)]
  try simp only[Ab,Bh]
  obtain⟨p,k,el,up,lp⟩:=Avi (h:=h5.lift) (by rw[Cj];exact a5.map) a5.marks e.B5 e.off
  simp only[kp,I]at el
  rw[N3 (by kernel_rfl) (by kernel_rfl) el]
  try simp only[Ab,Bh]
  have x6:Ext h5 ((h5.new (.cells (List.replicate 64 (EV.int .u8 0)++[EV.int .i64 0]) 320)).put h5.next (.cells (p++[I k]) 320)):=(A6.new h5 _:Ext _ _).A3 (.inr (Nat.le_refl _)) (Nat.lt_succ_self _) _
  have g6:((h5.new (.cells (List.replicate 64 (EV.int .u8 0)++[EV.int .i64 0]) 320)).put h5.next (.cells (p++[I k]) 320)).get h5.next=some (.cells (p++[I k]) 320):=Ai _ _ _
  rw[U9 (by kernel_rfl)]
  refine Ok.st (p++[I k]) (Ae _ _) rfl (by show Jz (p++[I k])=65;rw[Dq,List.length_append,lp];rfl) (Fy (by rw[List.length_append,List.length_replicate];show _=(p++[I k]).length;rw[List.length_append,lp];rfl)) ?_
  generalize (h5.new (.cells (List.replicate 64 (EV.int .u8 0)++[EV.int .i64 0]) 320)).put h5.next (.cells (p++[I k]) 320)=h6 at x6 g6 ⊢
  have hb6:=x6.hb hb5
  have s6:=s5.ext x6
  have g3:=x6.at hb5 g3
  have g4:=x6.at hb5 g4
  have a6:=a5.frame x6.next fun i hi=>x6.get i (s5.lt i hi) id
  have lD6:=hb6 _ _ a6.C1
  have l46:=hb6 _ _ g4
  have l36:=hb6 _ _ g3
  have l66:=hb6 _ _ g6
  try simp only[Ab,Bh]
  rw[As lD6 (by kernel_rfl),Cn a6.C1 rfl]
  try simp only[Ab,Bh]
  rw[As l46 (by kernel_rfl),Gk g4 rfl (Aw (n:=2) rfl)]
  try simp only[Ab,Bh]
  rw[As l66 (by kernel_rfl),Gk g6 rfl (l':=p) (by rw[K2 (by rw[List.length_append,lp];show 0+64<=64+1;omega),List.drop_zero,<-lp,List.take_left])]
  try simp only[Ab,Bh]
  rw[As l36 (by kernel_rfl),Gk g3 rfl (Vt.Azp w)]
  try simp only[Ab,Bh]
  refine Ok.Ct (by kernel_rfl) (by kernel_rfl) (Aza (K:=K) lp w.len up w.u8 (E8 hb6) (by omega)) (fun _ _ p=>p.2.1) ?_
  rintro _ h7' h7 ⟨rfl,_,_⟩ sm7 x7
  have hb7:=x7.hb hb6
  have s7:=s6.ext x7
  have a7:=a6.frame x7.next fun i hi=>x7.get i (s6.lt i hi) id
  have g6:=x7.at hb6 g6
  try simp only[Ab,Bh]
  rw[As l66 (by kernel_rfl),Az g6 rfl (v:=I k) (by rw[List.getElem?_append_right (by omega),lp];rfl)]
  simp only[Ab,Bh,I,Ah]
  have xl:=Af0 lp w.len
  rw[Ca (l:=O3 p e.pat++[I (Dc .i64 (k+1))]) (by
   show Uv (Gg [(0,64),(64,1)]) [(0,.agg (O3 p e.pat)),(1,.int .i64 (Dc .i64 (k+1)))] (List.replicate 64 (.int .u8 0)++[.int .i64 0])=_
   have e1:Jl (List.replicate 64 (EV.int .u8 0)++[EV.int .i64 0]) 0 (O3 p e.pat)=some (O3 p e.pat++[EV.int .i64 0]):=by
    rw[Xn (by rw[List.length_append,xl,List.length_replicate];show 0+64<=64+1;omega),xl];rfl
   have e2:Jl (O3 p e.pat++[EV.int .i64 0]) 64 [EV.int .i64 (Dc .i64 (k+1))]=some (O3 p e.pat++[I (Dc .i64 (k+1))]):=by
    rw[Xn (by rw[List.length_append,xl];show 64+1<=64+1;omega),<-xl,List.take_left,List.drop_of_length_le (by rw[List.length_append];exact Nat.le_refl _),List.append_nil]
   show An (Nat.beq (Jz (O3 p e.pat)) 64) (oB (fun z=>Uv (Gg [(0,64),(64,1)]) [(1,.int .i64 (Dc .i64 (k+1)))] z) (Jl (List.replicate 64 (EV.int .u8 0)++[EV.int .i64 0]) 0 (O3 p e.pat))) none=_
   rw[Dq,xl,Nat.beq_refl,Ak,e1]
   show oB (fun z=>some z) (Jl (O3 p e.pat++[EV.int .i64 0]) 64 [EV.int .i64 (Dc .i64 (k+1))])=_
   rw[e2];rfl)]
  obtain⟨ms',eu,hm'⟩:=Am6 (h:=h7.lift) (M:=M) (ms:=ms) (by rw[Cj];exact a7.map) a7.marks e.B5 e.off (p:=O3 p e.pat) (n:=Dc .i64 (k+1)) (up.xor w.u8) xl
  simp only[kp,I]at eu
  have lM:=hb7 _ _ a7.map
  refine Ok.Ak5 (S:=fun i=>i=M) (by kernel_rfl) (by kernel_rfl) (fun _=>by kernel_rfl) (P:=fun v h'=>v=.tuple []/\h'=h7.lift.put M (.map ms')) ⟨_,_,eu,rfl,rfl⟩ (fun _ _ p=>by rw[p.2];exact(A6.refl (S:=fun i=>i=M) _).A3 (.inl rfl) (h:=h7.lift) lM _) ?_
  rintro _ _ h9 s9' ⟨rfl,rfl⟩ sm9 c9 _
  obtain⟨s8,c8,hb8⟩:=s7.A0i a7 hb7 hm'
  have e9:∀ i,h9.get i=(h7.put M (.map ms')).get i:=fun i=>by
   rw[sm9.get,Aa.get_put,Aa.get_put,Cj]
  have n9:h9.next=h7.next:=sm9.next
  have s9:=s8.frame (h':=h9) (by rw[n9];exact Nat.le_refl _) fun i _=>e9 i
  refine fin h9 _ s9 (gr h9 (by have:=x5.next;have:=x6.next;have:=x7.next;omega)) ?_ (c9.hb hb7)
  refine((Ext.to x5).trans ((Ext.to x6).trans (Ext.to x7))).then c9 fun i hi _=>?_
  subst hi
  exact a4.sub.2.2.1
 ·simp only[hn,not_false_eq_true,decide_true,Ab]
  exact fin h4 _ s4 (gr h4 (Nat.le_refl _)) (A6.refl _) hb4
end Go.Ev

namespace Go.Ev
open Go.Proofs
set_option maxRecDepth 100000
variable {K:Nat}{disp:Nat->Option FT}
theorem T8.own {h h':Aa}{D V M qc qh qc' qh':Nat}{cs hs cs' hs':EV}{ms:List (EV × EV)}{S:I2}{F G:Nat->Prop}(a:T8 h D V M qc qh cs hs ms S F G)(hb:HB h){ev Og:List Vt}
 (g:h'.get D=some (.cells [.ptr V 0,cs',hs',.map M] 166)) (rc:Bx h' cs' qc' 105 68 ev.length (ev.map Vt.cells).flatten) (rh:Bx h' hs' qh' 105 68 Og.length (Og.map Vt.cells).flatten)
 (n:h.next<=h'.next) (k:∀ i,i<h.next->i ≠ D->(0<S.ev.length->i ≠ qc)->(0<S.Og.length->i ≠ qh)->h'.get i=h.get i) (sz:∀ i,G i->i<h.next)
 (fc:0<ev.length->h.next<=qc'/\qc'<h'.next\/qc'=qc/\0<S.ev.length) (fh:0<Og.length->h.next<=qh'/\qh'<h'.next\/qh'=qh/\0<S.Og.length) (ne:0<ev.length->0<Og.length->qc' ≠ qh') :
 T8 h' D V M qc' qh' cs' hs' ms ⟨S.dv,ev,Og⟩ F (Bw G h h'):=by
 obtain⟨b1,b2,b3,b4,b5⟩:=a.sub
 obtain⟨c1,c2,c3,c4,c5⟩:=a.apart
 have lM:=hb _ _ a.map
 have eM:h'.get M=h.get M:=k _ lM (Bf a.map a.C1 (by simp)) (fun y=>Bf a.map (a.Gu.block y) (by simp)) (fun y=>Bf a.map (a.Adp.block y) (by simp))
 refine⟨g,by rw[eM];exact a.map,a.marks,rc,rh,a.dev.frame n fun i hi=>k i (sz i (b1 i hi)) (fun y=>c1 (y ▸ hi)) (fun y z=>c3 y (z ▸ hi)) (fun y z=>c4 y (z ▸ hi)),⟨fun i hi=>.inl (b1 i hi),.inl b2,.inl b3,fun y=>?_,fun y=>?_⟩,⟨c1,c2,fun y z=>?_,fun y z=>?_,ne⟩⟩
 ·rcases fc y with z|⟨z,z'⟩
  ·exact .inr z
  ·rw[z];exact .inl (b4 z')
 ·rcases fh y with z|⟨z,z'⟩
  ·exact .inr z
  ·rw[z];exact .inl (b5 z')
 ·rcases fc y with x|⟨x,x'⟩
  ·have:=sz _ (b1 _ z);omega
  ·rw[x]at z;exact c3 x' z
 ·rcases fh y with x|⟨x,x'⟩
  ·have:=sz _ (b1 _ z);omega
  ·rw[x]at z;exact c4 x' z
theorem Av0(A:Ap disp)(hK:1000<K){d:Nat}(hd:7<=d){h:Aa}{D:Nat}{S:I2}{G:Nat->Prop}(s:Ej h D S G)(hb:HB h){e:Vt}(w:e.Wf)(hn:S.ev.length+S.Og.length<200):
 Ok (Ad TT disp K d false 169 [.ptr D 0,.agg e.cells] h) fun v h'=>Ej h' D { S with dv:=S.dv.Pu e,Og:=S.Og++[e] } (Bw G h h')/\A6 G h h'/\HB h':=by
 obtain⟨dd,rfl⟩:∃ k,d=k+1:=⟨d-1,by omega⟩
 rw[Yw A (by omega)]
 simp only[Ur,Ab]
 have x1:Ext h (h.new (.cells e.cells 105)):=A6.new _ _
 have g3:(h.new (.cells e.cells 105)).get h.next=some (.cells e.cells 105):=Ae _ _
 have hb1:HB (h.new (.cells e.cells 105)):=hb.new _
 have s1:=s.ext x1
 have n1:(h.new (.cells e.cells 105)).next=h.next+1:=rfl
 generalize h.new (.cells e.cells 105)=h1 at x1 g3 hb1 s1 n1 ⊢
 have nx:¬ G h.next:=fun y=>Nat.lt_irrefl _ (s.lt _ y)
 obtain⟨V,M,qc,qh,cs,hs,ms,F,a⟩:=s1.Rk
 have lD:=hb1 _ _ a.C1
 have l3:=hb1 _ _ g3
 have el:=Vt.len w
 rw[As lD (by kernel_rfl),Cn a.C1 rfl]
 try simp only[Ab,Bh]
 rw[As l3 (by kernel_rfl),Gk g3 rfl (Aw el)]
 try simp only[Ab,Bh]
 rw[Qw (v:=.agg e.cells) (z:=List.replicate 4 (EV.int .i64 0)++List.replicate 64 (EV.int .u8 0)) rfl (by simp) el (by omega),A2]
 have x2:Ext h1 (h1.new (.cells (EV.cells (.agg e.cells)) 105)):=A6.new _ _
 have gx:(h1.new (.cells (EV.cells (.agg e.cells)) 105)).get h1.next=some (.cells e.cells 105):=Ae _ _
 have n2:(h1.new (.cells (EV.cells (.agg e.cells)) 105)).next=h1.next+1:=rfl
 generalize h1.new (.cells (EV.cells (.agg e.cells)) 105)=h2 at x2 gx n2 ⊢
 have hb2:=x2.hb hb1
 have g3:=x2.at hb1 g3
 have s2:=s1.ext x2
 have a2:=a.frame x2.next fun i hi=>x2.get i (s1.lt i hi) id
 have r2:Bx h2.lift hs qh 105 68 S.Og.length (S.Og.map Vt.cells).flatten:=a2.Adp.frame fun _=>Cj _ _
 obtain⟨h3,e3,r3,n3,c3⟩:=Qb (x:=.slice h1.next 0 1 1 false) (n:=1) r2 rfl (by omega) (by omega) (by omega) (O1 (b:=h1.next) (by rw[Cj];exact gx) el) (by rw[el])
 refine Ok.Ak5 (S:=fun i=>0<S.Og.length/\i=qh) (by kernel_rfl) (by kernel_rfl) (fun _=>by kernel_rfl) (P:=fun v h'=>v=.slice h2.lift.next 0 (S.Og.length+1) (S.Og.length+1) true/\h'=h3) ⟨_,_,e3,rfl,rfl⟩ (fun _ _ p=>by rw[p.2];exact c3) ?_
 rintro _ _ h4 s' ⟨rfl,rfl⟩ sm x4 hs'
 have hb4:=x4.hb hb2
 rw[Wk]at r3 n3
 rw[Wk]
 have hnq:¬ (0<S.Og.length/\D=qh):=fun y=>Bf a2.C1 (a2.Adp.block y.1) (by simp) y.2
 have gD:h4.get D=some (.cells [.ptr V 0,cs,hs,.map M] 166):=A6.at x4 hb2 a2.C1 hnq
 have r4:Bx h4 (.slice h2.next 0 (S.Og.length+1) (S.Og.length+1) true) h2.next 105 68 (S.Og.length+1) ((S.Og.map Vt.cells).flatten++e.cells):=r3.frame fun _=>sm.get _
 have g3:h4.get h.next=some (.cells e.cells 105):=A6.at x4 hb2 g3 fun y=>by
  have:=a2.Adp.block y.1
  exact Bf g3 this (by simp) y.2
 have lD4:=hb4 _ _ gD
 try simp only[Ab]
 rw[U9 (by rcases hs' with rfl|⟨w,rfl,_⟩ <;> kernel_rfl)]
 refine Ok.st1 gD rfl rfl (by show 2<4;decide) ?_
 simp only[List.set]
 have l34:=hb4 _ _ g3
 have h2l4:h2.next<h4.next:=by
  have:=r4.block (by omega)
  exact hb4 _ _ this
 have gD5:(h4.put D (.cells [EV.ptr V 0,cs,.slice h2.next 0 (S.Og.length+1) (S.Og.length+1) true,.map M] 166)).get D=some (.cells [EV.ptr V 0,cs,.slice h2.next 0 (S.Og.length+1) (S.Og.length+1) true,.map M] 166):=Ai _ _ _
 have k5:∀ i,i ≠ D->(h4.put D (.cells [EV.ptr V 0,cs,.slice h2.next 0 (S.Og.length+1) (S.Og.length+1) true,.map M] 166)).get i=h4.get i:=fun i hi=>Am _ (Ne.symm hi)
 have n5:(h4.put D (.cells [EV.ptr V 0,cs,.slice h2.next 0 (S.Og.length+1) (S.Og.length+1) true,.map M] 166)).next=h4.next:=rfl
 have hb5:HB (h4.put D (.cells [EV.ptr V 0,cs,.slice h2.next 0 (S.Og.length+1) (S.Og.length+1) true,.map M] 166)):=hb4.put lD4 _
 have c5:A6 (Bw G h1 h2) h2 (h4.put D (.cells [EV.ptr V 0,cs,.slice h2.next 0 (S.Og.length+1) (S.Og.length+1) true,.map M] 166)):=(x4.mono (fun i hi=>.inl (by rw[hi.2];exact a2.sub.2.2.2.2 hi.1))).A3 (.inl (.inl a.sub.2.1)) lD4 _
 generalize h4.put D (.cells [EV.ptr V 0,cs,.slice h2.next 0 (S.Og.length+1) (S.Og.length+1) true,.map M] 166)=h5 at gD5 k5 n5 hb5 c5 ⊢
 have neD3:h.next ≠ D:=fun y=>nx (y ▸ a.sub.2.1)
 have g3:h5.get h.next=some (.cells e.cells 105):=by rw[k5 _ neD3];exact g3
 have lD5:D<h5.next:=by rw[n5];exact lD4
 have l35:h.next<h5.next:=by rw[n5];exact l34
 have a5:T8 h5 D V M qc h2.next cs (.slice h2.next 0 (S.Og.length+1) (S.Og.length+1) true) ms ⟨S.dv,S.ev,S.Og++[e]⟩ F (Bw G h2 h5):=by
  refine a2.own hb2 gD5 ?_ ?_ c5.next (fun i hi h1 _ h3=>?_) s2.lt (fun y=>.inr ⟨rfl,y⟩) (fun _=>.inl ⟨Nat.le_refl _,by rw[n5];exact h2l4⟩) (fun y _=>?_)
  ·refine a2.Gu.frame fun y=>?_
   have gc:=a2.Gu.block y
   rw[k5 _ (Bf gc a2.C1 (by simp)),A6.at x4 hb2 gc fun z=>a2.apart.2.2.2.2 y z.1 z.2,gc]
  ·rw[List.length_append,List.map_append,List.flatten_append]
   show Bx h5 _ _ 105 68 (S.Og.length+1) ((S.Og.map Vt.cells).flatten++(e.cells++[]))
   rw[List.append_nil]
   exact r4.frame fun _=>k5 _ (by have:=hb2 _ _ a2.C1;omega)
  ·rw[k5 i h1]
   exact x4.get i hi fun y=>h3 y.1 y.2
  ·have:=hb2 _ _ (a2.Gu.block y);omega
 have lt5:∀ i,Bw G h2 h5 i->i<h5.next:=Bw.lt s2.lt c5.next
 have s5:Ej h5 D ⟨S.dv,S.ev,S.Og++[e]⟩ (Bw G h2 h5):=by
  refine⟨lt5,⟨by rw[List.length_append];show S.ev.length+(S.Og.length+1)<=200;omega,s.wf.wf,fun x hx=>?_⟩,V,M,qc,_,cs,_,ms,F,a5⟩
  rcases List.mem_append.1 hx with hx|hx
  ·exact s.wf.Th x hx
  ·rw[List.mem_singleton.1 hx];exact w
 have c05:A6 G h h5:=((Ext.to x1).trans (Ext.to x2)).then c5 fun j hj hl=>by
  rcases hj with y|y
  ·exact y
  ·omega
 have cG:∀ h9,h5.next<=h9.next->A6 (Bw G h2 h5) h5 h9->A6 G h h9:=fun h9 l c=>c05.then c fun j hj hl=>by
  rcases hj with y|y
  ·exact y
  ·have:=x1.next;have:=x2.next;omega
 have fin:∀ (h9:Aa) (dv:Dv),Ej h9 D ⟨dv,S.ev,S.Og++[e]⟩ (Bw (Bw G h2 h5) h5 h9)->A6 (Bw G h2 h5) h5 h9->HB h9->dv=S.dv.Pu e->Ok (some (.tuple [],h9)) fun v h'=>Ej h' D ⟨S.dv.Pu e,S.ev,S.Og++[e]⟩ (Bw G h h')/\A6 G h h'/\HB h':=fun h9 dv s9 c9 hb9 he=>by
  subst he
  refine .ret ⟨s9.mono (fun i hi=>?_) (Bw.lt s.lt (cG h9 c9.next c9).next),cG h9 c9.next c9,hb9⟩
  rcases hi with (y|y)|y
  ·exact .inl y
  ·have:=x1.next;have:=x2.next;have:=c9.next;exact .inr ⟨by omega,by omega⟩
  ·exact .inr ⟨by have:=c05.next;omega,y.2⟩
 obtain⟨_,e1,e2,_⟩:=e.one
 rw[Az g3 rfl e1]
 simp only[Ah,I]
 have fails:∀ st:Nat,S.dv.fail e.B5 st=S.dv.Pu e ->
  Ok (Ct 6 63 (((DX.ld ⟨0,[],[],[],[]⟩ 3 D).ld 5 h.next)) h5 (fun h=>Hp K (.ptr V 0) (I e.B5) (I st) h) fun _ h s=>some (.tuple [],h)) fun v h'=>Ej h' D ⟨S.dv.Pu e,S.ev,S.Og++[e]⟩ (Bw G h h')/\A6 G h h'/\HB h':=by
  intro st hst
  refine Ok.Ak5 (S:=F) (by kernel_rfl) (by kernel_rfl) (fun _=>by kernel_rfl) (Aqa (K:=K) a5.dev.lift (E8 hb5) e.B5 st) (fun _ _ p=>p.2.1) ?_
  rintro _ h6 h9 s' ⟨d6,_,hb6⟩ sm c9 _
  obtain⟨s9,c59,_⟩:=s5.call a5 hb5 d6 sm c9
  exact fin h9 _ s9 c59 (sm.hb hb6) hst
 by_cases k1:e.kind=1
 ·simp only[k1,decide_true,Ab]
  rw[Gk g3 rfl (Aw el)]
  refine(Anj (K:=K) A hK (by omega) s5 hb5 w).Aj ?_
  rintro _ h9 ⟨s9,c9,hb9⟩
  exact fin h9 _ s9 c9 hb9 (by unfold Dv.Pu;rw[if_pos k1])
 ·simp only[k1,decide_false,Ab]
  by_cases k2:e.kind=2
  ·simp only[k2,decide_true,Ab,Bh]
   rw[As lD5 (by kernel_rfl),Cn gD5 rfl]
   try simp only[Ab,Bh]
   rw[As l35 (by kernel_rfl),Az g3 rfl e2]
   exact fails 3 (by unfold Dv.Pu;rw[if_neg k1,if_pos k2])
  ·simp only[k2,decide_false,Ab]
   by_cases k3:e.kind=3
   ·simp only[k3,decide_true,Ab,Bh]
    rw[As lD5 (by kernel_rfl),Cn gD5 rfl]
    try simp only[Ab,Bh]
    rw[As l35 (by kernel_rfl),Az g3 rfl e2]
    exact fails 4 (by unfold Dv.Pu;rw[if_neg k1,if_neg k2,if_pos k3])
   ·simp only[k3,decide_false,Ab]
    by_cases k4:e.kind=4
    ·simp only[k4,decide_true,Ab,Cn gD5 rfl]
     refine(Ana (K:=K) a5.dev hb5).Aj ?_
     rintro _ h9 ⟨d9,c9,hb9⟩
     obtain⟨s9,c59⟩:=s5.put a5 hb5 (d9.grow a5.dev.lt c9.next) c9
     exact fin h9 _ s9 c59 hb9 (by unfold Dv.Pu;rw[if_neg k1,if_neg k2,if_neg k3,if_pos k4])
    ·simp only[k4,decide_false,Ab]
     exact fin h5 S.dv (s5.grow s5.lt (Nat.le_refl _)) (A6.refl _) hb5 (by unfold Dv.Pu;rw[if_neg k1,if_neg k2,if_neg k3,if_neg k4])
theorem Avk(q o n r:Nat)(op:Bool)(k:EV->R):Ar Jg (bin TT .eql 101) (.slice q o n r op) .Af k=k (.bool false):=by kernel_rfl
theorem Asr(q o z:Nat)(k:EV->R):Ar Jg (bin TT .eql 101) (.tail q o z) .Af k=k (.bool false):=by kernel_rfl
theorem Am9 {h:Aa}{q:Nat}{e:Vt}{ev:List Vt}(w:∀ x ∈ e::ev,x.Wf)(hn:ev.length<=65000)(hg:h.get q=some (.vec ((e::ev).map Vt.cells).flatten 105 68))(hb:HB h){kk:EV->Aa->R}{Q:EV->Aa->Prop}
 (hk:∀ v h' q',Bx h' v q' 105 68 ev.length (ev.map Vt.cells).flatten->Ext h h'->(0<ev.length->h.next<=q')->Ok (kk v h') Q) :
 Ok (Ao0 68 (.slice q 0 (e::ev).length (e::ev).length true) (some (.int .i64 1)) none none fun v=>Aj (B1 K v h) kk) Q:=by
 have x1:Ext h (h.new (.cells [] 105)):=A6.new _ _
 have eb:B4 (List.replicate 4 (.int .i64 0)++List.replicate 64 (.int .u8 0)) 105 68 0 [] h=some (.slice h.next 0 0 0 false,h.new (.cells [] 105)):=rfl
 have wl:∀ x ∈ ev.map Vt.cells,x.length=68:=fun x hx=>by
  obtain⟨y,hy,rfl⟩:=List.mem_map.1 hx
  exact Vt.len (w y (List.mem_cons_of_mem _ hy))
 have fl:(ev.map Vt.cells).flatten.length=ev.length*68:=by rw[Abw _ wl,List.length_map]
 rcases Nat.eq_zero_or_pos ev.length with h0|hp
 ·have:ev = []:=List.length_eq_zero_iff.1 h0
  subst this
  have e1:∀ k:EV->R,Ao0 68 (.slice q 0 [e].length [e].length true) (some (.int .i64 1)) none none k=k (.tail q 68 0):=fun k=>rfl
  rw[e1]
  simp only[B1,Asr,Ab,Ef]
  rw[eb,A2]
  have:C8 105 68 (.slice h.next 0 0 0 false) (.tail q 68 0) (h.new (.cells [] 105))=some (.slice h.next 0 0 0 false,h.new (.cells [] 105)):=by unfold C8;rfl
  rw[this,A2]
  try simp only[Ab]
  exact hk _ _ 0 (.empty _ _ _ _ _) x1 fun y=>absurd y (Nat.lt_irrefl _)
 ·obtain⟨m,hm⟩:∃ m,ev.length=m+1:=⟨ev.length-1,by omega⟩
  have e1:∀ k:EV->R,Ao0 68 (.slice q 0 (e::ev).length (e::ev).length true) (some (.int .i64 1)) none none k=k (.slice q 68 ev.length ev.length true):=fun k=>by
   rw[List.length_cons,hm];rfl
  rw[e1]
  simp only[B1,Avk,Ab,Ef]
  rw[eb,A2]
  have hc:M0 (h.new (.cells [] 105)) 68 ev.length (.slice q 68 ev.length ev.length true)=some (ev.map Vt.cells).flatten:=by
   show An (Nat.beq ev.length 0) (some []) (Tv _ q 68 (Nat.mul ev.length 68))=_
   rw[show Nat.beq ev.length 0=false by rw[hm];rfl,Ax]
   unfold Tv Ut
   rw[x1.at hb hg]
   have el:=Vt.len (w e (List.mem_cons_self ..))
   show N0 (e.cells++(ev.map Vt.cells).flatten) 68 (ev.length*68)=_
   rw[K2 (by rw[List.length_append,el,fl];exact Nat.le_refl _),<-el,List.drop_left,List.take_of_length_le (by rw[fl,el];exact Nat.le_refl _)]
  have ap:=Wy (h:=h.new (.cells [] 105)) (b:=h.next) (e:=105) (x:=.slice q 68 ev.length ev.length true) rfl (by omega) hc fl 0
  rw[show ∀ (x:R) (k k':EV->Aa->R),Aj (Aj x k) k'=Aj x fun v h=>Aj (k v h) k' from fun x k k'=>by cases x <;> rfl]
  refine ap.Aj ?_
  rintro v h2 ⟨q',r,x2,l⟩
  rw[A2]
  exact hk v h2 q' r (x1.trans x2) fun y=>by have:=l y;have:=x1.next;omega
theorem Ay7(A:Ap disp)(hK:1000<K){d:Nat}(hd:9<=d){D:Nat}:∀ (m:Nat) (S:I2) (h:Aa) (G:Nat->Prop),S.ev.length<m->Ej h D S G->HB h ->
 Ok (Du (Ad TT disp K d false) (Ad TT disp K d true) K m (.ptr D 0) h) fun v h'=>Ej h' D S.due (Bw G h h')/\A6 G h h'/\HB h':=by
 intro m
 induction m with
 | zero=>intro S h G hm;omega
 | succ m ih=>
  intro S h G hm s hb
  obtain⟨V,M,qc,qh,cs,hs,ms,F,a⟩:=s.Rk
  obtain⟨zl,z,q,b,_⟩:=a.dev.Rk
  have lD:=hb _ _ a.C1
  have lV:=hb _ _ b.dev
  have stay:S.due=S->Ok (some (.tuple [],h)) fun(_:EV) h'=>Ej h' D S.due (Bw G h h')/\A6 G h h'/\HB h':=fun y=>by
   rw[y];exact .ret ⟨s.grow s.lt (Nat.le_refl _),A6.refl _,hb⟩
  simp only[Du,Ab,Bh,As lD,Cn a.C1 rfl]
  have hdn:Jk K (.ptr V 0) h.lift=some (.bool S.dv.down,h.lift):=by
   simp only[Jk,Ab,Cn b.lift.dev rfl]
  rw[N3 (by kernel_rfl) (by kernel_rfl) hdn]
  obtain⟨dv,ev,Og⟩:=S
  simp only at a hdn b hm ⊢
  cases hdd:dv.down with
  | true=>
   simp only[Ab,Ah,Bh,Ip,G2]
   refine stay ?_
   unfold I2.due
   cases ev with
   | nil=>rfl
   | cons e r=>unfold Art;rw[if_pos (.inl hdd)]
  | false=>
   simp only[Ab,Ah,Bh]
   rw[As lD (by kernel_rfl),Cn a.C1 rfl]
   simp only[Ab,a.Gu.I4,Ah]
   cases ev with
   | nil=>
    simp only[List.length_nil,Ip,G2,Ab,Ah]
    exact stay rfl
   | cons e r=>
    have we:=s.wf.wf e (List.mem_cons_self ..)
    have el:=Vt.len we
    have gq:=a.Gu.block (Nat.succ_pos _)
    have lq:=hb _ _ gq
    have c0:N0 (((e::r).map Vt.cells).flatten) 0 68=some e.cells:=by
     show N0 (e.cells++_) 0 68=_
     rw[K2 (by rw[List.length_append,el];omega),List.drop_zero,<-el,List.take_left]
    have at0:(((e::r).map Vt.cells).flatten)[0]? = some (I e.Rk):=rfl
    rw[decide_eq_true (show (0:Int)<((e::r).length:Int) by rw[List.length_cons];omega)]
    simp only[Ip,Ab,Ah,Bh]
    rw[As lD (by kernel_rfl),Cn a.C1 rfl]
    try simp only[Ab,Bh]
    rw[show ∀ k:EV->R,I5 68 cs (.int .i64 0) k=k (.ptr qc (0*68)) from fun k=>a.Gu.ix (Nat.succ_pos _) .i64 k]
    try simp only[Ab,Bh]
    rw[As lq (by kernel_rfl),Az gq rfl at0]
    try simp only[Ab,Bh]
    rw[As lD (by kernel_rfl),Cn a.C1 rfl]
    try simp only[Ab,Bh]
    have hct:Io K (.ptr V 0) h.lift=some (I dv.cnt,h.lift):=by
     simp only[Io,Ab,Cn b.lift.dev rfl]
    rw[N3 (by kernel_rfl) (by kernel_rfl) hct]
    simp only[I,Ah]
    by_cases hat:e.Rk<=dv.cnt
    ·rw[decide_eq_true hat]
     simp only[G2,Ab,Uz,Cn a.C1 rfl]
     rw[show ∀ k:EV->R,I5 68 cs (.int .i64 0) k=k (.ptr qc (0*68)) from fun k=>a.Gu.ix (Nat.succ_pos _) .i64 k]
     rw[Gk gq rfl c0]
     try simp only[Ab]
     have el0:(List.replicate 4 (EV.int .i64 0)++List.replicate 64 (EV.int .u8 0)).length=68:=by simp
     refine Ok.st e.cells (Ae _ _) rfl (by show Jz e.cells=68;rw[Dq,el]) (Fy (by rw[el0];exact el.symm)) ?_
     have x1:Ext h ((h.new (.cells (List.replicate 4 (EV.int .i64 0)++List.replicate 64 (EV.int .u8 0)) 105)).put h.next (.cells e.cells 105)):=(A6.new h _:Ext _ _).A3 (.inr (Nat.le_refl _)) (Nat.lt_succ_self _) _
     have g2:((h.new (.cells (List.replicate 4 (EV.int .i64 0)++List.replicate 64 (EV.int .u8 0)) 105)).put h.next (.cells e.cells 105)).get h.next=some (.cells e.cells 105):=Ai _ _ _
     generalize (h.new (.cells (List.replicate 4 (EV.int .i64 0)++List.replicate 64 (EV.int .u8 0)) 105)).put h.next (.cells e.cells 105)=h1 at x1 g2 ⊢
     have hb1:=x1.hb hb
     have s1:=s.ext x1
     have a1:=a.frame x1.next fun i hi=>x1.get i (s.lt i hi) id
     have gq1:=a1.Gu.block (Nat.succ_pos _)
     have hcs:=a1.Gu.slice (Nat.succ_pos _)
     subst hcs
     simp only[Ab,Cn a1.C1 rfl]
     have hev:=s.wf.ev
     refine Am9 (K:=K) s.wf.wf (by simp only[List.length_cons]at hev;omega) gq1 hb1 ?_
     intro v h2 q' r2 x2 lq'
     have hb2:=x2.hb hb1
     have s2:=s1.ext x2
     have a2:=a1.frame x2.next fun i hi=>x2.get i (s1.lt i hi) id
     have g2:=x2.at hb1 g2
     try simp only[Ab]
     have lD2:=hb2 _ _ a2.C1
     refine Ok.st1 a2.C1 r2.plain.1 r2.plain.2 (by show 1<4;decide) ?_
     simp only[List.set]
     have gD3:(h2.put D (.cells [EV.ptr V 0,v,hs,.map M] 166)).get D=some (.cells [EV.ptr V 0,v,hs,.map M] 166):=Ai _ _ _
     have k3:∀ i,i ≠ D->(h2.put D (.cells [EV.ptr V 0,v,hs,.map M] 166)).get i=h2.get i:=fun i hi=>Am _ (Ne.symm hi)
     have hb3:HB (h2.put D (.cells [EV.ptr V 0,v,hs,.map M] 166)):=hb2.put lD2 _
     have c3:A6 G h2 (h2.put D (.cells [EV.ptr V 0,v,hs,.map M] 166)):=(A6.refl h2).A3 (.inl a.sub.2.1) lD2 _
     have n3:(h2.put D (.cells [EV.ptr V 0,v,hs,.map M] 166)).next=h2.next:=rfl
     generalize h2.put D (.cells [EV.ptr V 0,v,hs,.map M] 166)=h3 at gD3 k3 hb3 c3 n3 ⊢
     have nD:h.next ≠ D:=by omega
     have g3:h3.get h.next=some (.cells e.cells 105):=by rw[k3 _ nD];exact g2
     have rb:0<r.length->q'<h2.next:=fun y=>hb2 _ _ (r2.block y)
     have a3:T8 h3 D V M q' qh v hs ms ⟨dv,r,Og⟩ F (Bw G h1 h3):=by
      have h13:h1.next<=h3.next:=by rw[n3];exact x2.next
      have k13:∀ i,i<h1.next->i ≠ D->h3.get i=h1.get i:=fun i hi hne=>by rw[k3 i hne,x2.get i hi id]
      refine a1.own hb1 gD3 (r2.frame fun y=>k3 _ (by have:=lq' y;have:=hb1 _ _ a1.C1;omega)) (a1.Adp.frame fun y=>k13 _ (hb1 _ _ (a1.Adp.block y)) (Bf (a1.Adp.block y) a1.C1 (by simp))) h13 (fun i hi h1 _ _=>k13 i hi h1) s1.lt
       (fun y=>.inl ⟨lq' y,by rw[n3];exact rb y⟩) (fun y=>.inr ⟨rfl,y⟩) fun y z=>?_
      have:=lq' y;have:=hb1 _ _ (a1.Adp.block z);omega
     have c13:A6 G h h3:=((Ext.to x1).trans (Ext.to x2)).trans c3
     have s3:Ej h3 D ⟨dv,r,Og⟩ (Bw G h1 h3):=by
      refine⟨Bw.lt s1.lt (by rw[n3];exact x2.next),⟨?_,fun x hx=>s.wf.wf x (List.mem_cons_of_mem _ hx),s.wf.Th⟩,V,M,q',qh,v,hs,ms,F,a3⟩
      have:=s.wf.ev
      simp only[List.length_cons]at this ⊢
      omega
     rw[Gk g3 rfl (Aw el)]
     refine(Av0 (K:=K) A hK (by omega) s3 hb3 we (by have:=s.wf.ev;simp only[List.length_cons]at this ⊢;omega)).Aj ?_
     rintro _ h4 ⟨s4,c4,hb4⟩
     have hdue:(I2.mk dv (e::r) Og).due=(I2.mk (dv.Pu e) r (Og++[e])).due:=by
      unfold I2.due
      conv=>lhs;unfold Art
      rw[if_neg (by rw[hdd];rintro(y|y);exact absurd y (by simp);exact y hat)]
     rw[hdue]
     refine(ih ⟨dv.Pu e,r,Og++[e]⟩ h4 _ (by simp only[List.length_cons]at hm ⊢;omega) s4 hb4).mono ?_
     rintro _ h5 ⟨s5,c5,hb5⟩
     have t1:=x1.next
     have t2:=x2.next
     have t4:=c4.next
     have t5:=c5.next
     have c4':A6 G h h4:=c13.then c4 fun j hj hl=>by
      rcases hj with y|y
      ·exact y
      ·omega
     have c5':A6 G h h5:=c4'.then c5 fun j hj hl=>by
      rcases hj with (y|y)|y
      ·exact y
      ·omega
      ·omega
     refine⟨s5.mono (fun i hi=>?_) (Bw.lt s.lt c5'.next),c5',hb5⟩
     rcases hi with ((y|y)|y)|y
     ·exact .inl y
     ·exact .inr ⟨by omega,by omega⟩
     ·exact .inr ⟨by omega,by omega⟩
     ·exact .inr ⟨by omega,y.2⟩
    ·rw[decide_eq_false hat]
     simp only[G2,Ab]
     refine stay ?_
     unfold I2.due Art
     rw[if_pos (.inr hat)]
theorem A2x(A:Ap disp)(hK:1000<K)(S:I2):∀ d,12<=d->A2m disp K d S:=by
 intro d hd h D G s hb
 obtain⟨e,rfl⟩:∃ k,d=k+1:=⟨d-1,by omega⟩
 rw[Ac9 A (by omega)]
 exact Ay7 (K:=K) A hK (by omega) K S h G (by have:=s.wf.ev;omega) s hb
end Go.Ev

namespace Go.Ev
open Go.Proofs
set_option maxRecDepth 100000
variable {K:Nat}{disp:Nat->Option FT}
def Out(F:Nat->Prop)(h:Aa):Nat->Prop:=fun i=>i<h.next/\¬ F i
abbrev Kf(F:Nat->Prop):Aa->Aa->Prop:=A6 fun i=>¬ F i
theorem A6.kf {F:Nat->Prop}{h h':Aa}(c:A6 (Out F h) h h'):Kf F h h':=c.mono fun _ y=>y.2
theorem Ext.kf {F:Nat->Prop}{h h':Aa}(c:Ext h h'):Kf F h h':=Ext.to c
theorem Kf.less {F F':Nat->Prop}{h h':Aa}(c:Kf F h h')(s:∀ i,F' i->F i):Kf F' h h':=c.mono fun i y z=>y (s i z)
theorem Kf.at {F:Nat->Prop}{h h':Aa}(c:Kf F h h')(hb:HB h){i:Nat}{o:Cx}(g:h.get i=some o)(hF:F i):h'.get i=some o:=A6.at c hb g fun y=>y hF
theorem Ad5.frame {h h':Aa}{m:Nat}{S:Mi}{H:Nat->Prop}(s:Ad5 h m S H)(n:h.next<=h'.next)(e:∀ i,H i->h'.get i=h.get i):Ad5 h' m S H:=by
 obtain⟨lt,D,p,bl,ql,np,q,c,G,a⟩:=s
 obtain⟨t1,t2,t3,t4,t5,t6⟩:=a.sub
 have k:∀ i o,h.get i=some o->H i->h'.get i=some o:=fun i o g hi=>by rw[e i hi];exact g
 exact⟨fun i hi=>Nat.lt_of_lt_of_le (lt i hi) n,D,p,bl,ql,np,q,c,G,⟨k _ _ a.mir.mir t2,k _ _ a.mir.Anm t3⟩,
  ⟨a.Js.pos,k _ _ a.Js.Js t4,k _ _ a.Js.row t5,fun d hd=>k _ _ (a.Js.que d hd) (t6 d hd).1,fun d hd=>k _ _ (a.Js.chan d hd) (t6 d hd).2,a.Js.inj⟩,
  a.psz,a.drv.frame n fun i hi=>e i (t1 i hi),a.apart,a.sub⟩
structure Mi.Wp(S:Mi):Prop where
 sm:Sm S.g
 ps:∀ d,d<S.g.D.toNat->∀ x ∈ S.ps d,La S.g x=d/\¬ S.bad x.toNat=1
structure Mi.Wf(S:Mi):Prop extends S.Wp where
 op:(S.a = -1/\S.b = -1)\/((0<=La S.g S.a/\¬ S.bad S.a.toNat=1)/\(0<=La S.g S.b/\¬ S.bad S.b.toNat=1))
theorem Aq1 {g:Gm}(s:Sm g){z:Int}(h:0<=La g z):Rng z:=by
 have h1:=s.d1;have h2:=s.z1;have h3:=s.d0;have h4:=s.z0
 rcases Air s z with y|⟨_,_,_,y1,y2⟩
 ·omega
 ·obtain⟨m0,m1⟩:=Rv (a:=g.D) (b:=g.Z) (A:=8) (B:=64) (by omega) (by omega) (by omega) (by omega)
  exact⟨by omega,by omega⟩
theorem Aw5 {g:Gm}{ps:Nat->List Int}{P:Int->Prop}(w:∀ d,d<g.D.toNat->∀ x ∈ ps d,La g x=d/\P x)(n:Nat)(z:Int)(hz:0<=La g z->P z):∀ d,d<g.D.toNat->∀ x ∈ (Acp g n ps z).2 d,La g x=d/\P x:=by
 intro d hd x hx
 unfold Acp at hx
 split at hx
 ·exact w d hd x hx
 ·rename_i h0
  split at hx
  ·exact w d hd x hx
  ·split at hx
   ·simp only[upd]at hx
    split at hx
    ·rename_i e
     subst e
     rcases List.mem_append.1 hx with hx|hx
     ·exact w _ hd x hx
     ·rw[List.mem_singleton.1 hx];exact⟨by omega,hz (by omega)⟩
    ·exact w d hd x hx
   ·exact w d hd x hx
structure Fg(h:Aa)(m:Nat)(S:Mi)(F:Nat->Prop):Prop where
 s:Ad5 h m S (Out F h)
 lt:∀ i,F i->i<h.next
 wf:S.Wf
section
variable {h h':Aa}{m:Nat}{S S':Mi}{F F':Nat->Prop}
theorem Fg.made(M:Fg h m S F)(s:Ad5 h' m S' (Bw (Out F h) h h'))(c:A6 (Out F h) h h')(w:S'.Wf):Fg h' m S' F/\Kf F h h':=by
 refine⟨⟨s.mono (fun i hi=>?_) fun i hi=>hi.1,fun i hi=>Nat.lt_of_lt_of_le (M.lt i hi) c.next,w⟩,c.kf⟩
 rcases hi with hi|hi
 ·exact⟨Nat.lt_of_lt_of_le hi.1 c.next,hi.2⟩
 ·exact⟨hi.2,fun y=>by have:=M.lt i y;omega⟩
theorem Fg.ext(M:Fg h m S F)(hb:HB h)(x:Ext h h'):Fg h' m S (Bw F h h'):=by
 refine⟨(M.s.ext hb x).mono (fun i hi=>⟨Nat.lt_of_lt_of_le hi.1 x.next,fun y=>?_⟩) fun i hi=>hi.1,Bw.lt M.lt x.next,M.wf⟩
 rcases y with y|y
 ·exact hi.2 y
 ·have:=hi.1;omega
theorem Fg.less(M:Fg h m S F)(s:∀ i,F' i->F i):Fg h m S F':=
 ⟨M.s.mono (fun i hi=>⟨hi.1,fun y=>hi.2 (s i y)⟩) fun i hi=>hi.1,fun i hi=>M.lt i (s i hi),M.wf⟩
theorem Fg.Ao8 {T:Nat->Prop}(M:Fg h m S F)(c:A6 T h h')(t:∀ i,T i->i<h.next->F i):Fg h' m S F:=by
 refine⟨(M.s.frame c.next fun i hi=>c.get i hi.1 fun y=>hi.2 (t i y hi.1)).mono (fun i hi=>⟨Nat.lt_of_lt_of_le hi.1 c.next,hi.2⟩) fun i hi=>hi.1,fun i hi=>Nat.lt_of_lt_of_le (M.lt i hi) c.next,M.wf⟩
theorem Fg.same(M:Fg h m S F)(sm:Afh h h'):Fg h' m S F:=
 ⟨(M.s.frame (by rw[sm.next];exact Nat.le_refl _) fun i _=>sm.get i).mono (fun i hi=>⟨by rw[sm.next];exact hi.1,hi.2⟩) fun i hi=>hi.1,fun i hi=>by rw[sm.next];exact M.lt i hi,M.wf⟩
end
section
variable (A:Ap disp)(hK:10000<K){d:Nat}{h:Aa}{m:Nat}{S:Mi}{F:Nat->Prop}(M:Fg h m S F)(hb:HB h)
include A hK M hb
end
end Go.Ev

namespace Go.Ev
open Go.Proofs
set_option maxRecDepth 100000
variable {K:Nat}{disp:Nat->Option FT}
theorem Ej.lift {h:Aa}{D:Nat}{S:I2}{G:Nat->Prop}(d:Ej h D S G):Ej h.lift D S G:=d.frame (Nat.le_refl _) fun i _=>Cj h i
theorem Ej.same {h h3 h4:Aa}{D:Nat}{S:I2}{G:Nat->Prop}(d:Ej h3 D S (Bw G h.lift h3))(sm:Afh h3 h4):Ej h4 D S (Bw G h h4):=by
 refine(d.frame (h':=h4) (by rw[sm.next];exact Nat.le_refl _) fun j _=>sm.get j).mono (fun j hj=>?_) fun j hj=>?_
 ·rcases hj with y|y
  ·exact .inl y
  ·exact .inr ⟨y.1,by rw[sm.next];exact y.2⟩
 ·rw[sm.next]
  rcases hj with y|y
  ·exact d.lt _ (.inl y)
  ·rw[sm.next]at y;exact y.2
theorem Fg.drv {h h':Aa}{m D p bl ql np:Nat}{q c:Nat->Nat}{S:Mi}{G F:Nat->Prop}{dr:I2}(M:Fg h m S F)(hb:HB h)(a:Aq6 h m D p bl ql np q c S G (Out F h))(d:Ej h' D dr (Bw G h h'))(ch:A6 G h h'):
 Fg h' m { S with dr:=dr } F/\Kf F h h':=by
 have cH:=ch.mono a.sub.1
 exact M.made ⟨Bw.lt M.s.lt cH.next,D,p,bl,ql,np,q,c,_,a.A2z hb d ch⟩ cH { toWp:=⟨M.wf.sm,M.wf.ps⟩,op:=M.wf.op }
end Go.Ev

namespace Go.Ev
open Go.Proofs
set_option maxRecDepth 100000
variable {K:Nat}{disp:Nat->Option FT}
def Me.zero:Me:=⟨0,0,0,0,0,0⟩
theorem A4d:TT.size 83=some 6/\TT.agg 83=some true:=⟨by kernel_rfl,by kernel_rfl⟩
theorem A0z: [EV.int .i64 0,.int .i64 0,.int .i64 0,.int .i64 0,.int .i64 0,.int .i64 0]=Me.zero.cells:=rfl
end Go.Ev
