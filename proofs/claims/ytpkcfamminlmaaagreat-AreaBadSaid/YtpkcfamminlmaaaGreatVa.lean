import Derived.Test.YtpkcfamminlmaaaGreatZa
import Derived.Test.YtpkcfamminlmaaaGreatXc
set_option linter.unusedVariables false
set_option linter.unusedSimpArgs false
set_option linter.unusedSectionVars false
namespace Go.Ev
open Go.Proofs
set_option maxRecDepth 100000
variable {K:Nat}{disp:Nat->Option FT}
theorem Ah0 {x y:List EV}(hx:x.length=64)(hy:y.length=64):(Qo x y).length=64:=by unfold Qo;rw[List.length_zipWith,hx,hy];rfl
theorem U8.at {x:List EV}(u:U8 x){i:Nat}(hi:i<x.length):∃ a:Nat,a<256/\x[i]=.int .u8 (Int.ofNat a):=by
 obtain⟨l,hl,rfl⟩:=u
 rw[F2]at hi
 exact⟨l[i],hl _ (List.getElem_mem _),by simp[Jx]⟩
theorem U8.xor {x y:List EV}(ux:U8 x)(uy:U8 y):U8 (Qo x y):=by
 obtain⟨a,ha,rfl⟩:=ux
 obtain⟨b,hb,rfl⟩:=uy
 refine⟨List.zipWith Nat.xor a b,fun c hc=>?_,?_⟩
 ·obtain⟨i,hi,rfl⟩:=List.getElem_of_mem hc
  rw[List.getElem_zipWith]
  rw[List.length_zipWith]at hi
  exact Nat.xor_lt_two_pow (n:=8) (ha _ (List.getElem_mem _)) (hb _ (List.getElem_mem _))
 ·unfold Qo Jx
  rw[List.zipWith_map,List.map_zipWith]
  rfl
theorem A2o {h0:Aa}{b2 b3 b4:Nat}{x y:List EV}(hx:x.length=64)(hy:y.length=64)(ux:U8 x)(uy:U8 y)(l2:h0.next<=b2)(l3:b2<b3)(l4:b3<b4):∀ (m i:Nat) (h:Aa) (l:List EV),64-i<m->i<=64->HB h->Ext h0 h ->
 h.get b2=some (.cells l 103)->l.length=64->(∀ j,j<64->l[j]? = if j<i then (Qo x y)[j]? else x[j]?)->h.get b3=some (.cells y 103)->h.get b4=some (.cells Abf 103) ->
 Ok (Du K m (.ptr b2 0) (.ptr b3 0) (.ptr b4 0) (.int .i64 (i:Int)) h) fun v h'=>v=.agg (Qo x y)/\Ext h0 h'/\HB h':=by
 intro m
 induction m with
 | zero=>intro i h l hm;omega
 | succ m ih=>
  intro i h l hm hi hb c g2 hl hj g3 g4
  have lt2:=hb _ _ g2
  have lt3:=hb _ _ g3
  have lt4:=hb _ _ g4
  simp only[Du,Ah]
  by_cases hlt:i<64
  ·rw[decide_eq_true (show (i:Int)<64 by omega)]
   obtain⟨a,ha,ea⟩:=ux.at (i:=i) (by omega)
   obtain⟨b,hb',eb⟩:=uy.at (i:=i) (by omega)
   have e2:l[i]? = some (.int .u8 (Int.ofNat a)):=by rw[hj i hlt,if_neg (Nat.lt_irrefl _),List.getElem?_eq_getElem (by omega),ea]
   have e3:y[i]? = some (.int .u8 (Int.ofNat b)):=by rw[List.getElem?_eq_getElem (by omega),eb]
   have ex:(Qo x y)[i]? = some (Nk .u8 (a ^^^ b)):=by
    unfold Qo
    rw[List.getElem?_zipWith,List.getElem?_eq_getElem (show i<x.length by omega),ea,e3];rfl
   simp only[Ab,T9,Wu hlt,Nat.zero_add,Nat.mul_one]
   rw[As lt2 (by kernel_rfl),A3 g2 rfl e2,As lt3 (by kernel_rfl),A3 g3 rfl e3,A1n ha hb',Wd (by kernel_rfl)]
   refine Ok.st1 g2 rfl rfl (by omega) ?_
   simp only[Tj,Ah]
   rw[Cx (by omega) (by omega)]
   refine ih (i+1) _ (l.set i (Nk .u8 (a ^^^ b))) (by omega) (by omega) (hb.put lt2 _) (c.Az (.inr l2) lt2 _) (Ai _ _ _) (by rw[List.length_set];exact hl) (fun j hj'=>?_) ?_ ?_
   ·rw[List.getElem?_set]
    by_cases hji:i=j
    ·subst hji;rw[if_pos rfl,if_pos (by omega),if_pos (by omega),ex]
    ·rw[if_neg hji,hj j hj']
     by_cases h1:j<i
     ·rw[if_pos h1,if_pos (by omega)]
     ·rw[if_neg h1,if_neg (by omega)]
   ·rw[Al _ (by omega)];exact g3
   ·rw[Al _ (by omega)];exact g4
  ·have:i=64:=by omega
   subst this
   have el:l=Qo x y:=by
    refine List.ext_getElem? fun j=>?_
    by_cases h1:j<64
    ·rw[hj j h1,if_pos h1]
    ·rw[List.getElem?_eq_none (by omega),List.getElem?_eq_none (by rw[Ah0 hx hy];omega)]
   subst el
   simp only[show ¬ ((64:Nat):Int)<64 by omega,decide_false,Ab,N7]
   rw[Gf g2 rfl,Ax hl]
   simp only[Ab]
   refine Ok.st (Qo x y) g4 rfl (by show K9 (Qo x y)=64;rw[Dx,hl]) (Gc (by rw[Ag8];exact hl.symm)) ?_
   rw[Ls (Ai _ _ _) Aox.1 Aox.2 hl]
   exact .ret ⟨rfl,c.Az (.inr (by omega)) lt4 _,hb.put lt4 _⟩
theorem A1u {h:Aa}{x y:List EV}(hx:x.length=64)(hy:y.length=64)(ux:U8 x)(uy:U8 y)(hb:HB h)(hK:100<K):
 Ok (Kg K (.agg x) (.agg y) h) fun v h'=>v=.agg (Qo x y)/\Ext h h'/\HB h':=by
 simp only[Kg,Ab]
 have x1:Ext h (((h.new (.cells x 103)).new (.cells y 103)).new (.cells (List.replicate 64 (.int .u8 0)) 103)):=((A1.new _ _).Gg _).Gg _
 refine A2o (h0:=h) (x:=x) (y:=y) hx hy ux uy (b2:=h.next) (b3:=h.next+1) (b4:=h.next+2) (Nat.le_refl _) (by omega) (by omega) K 0 _ x (by omega) (by omega) (x1.hb hb) x1 ?_ hx (fun j _=>by rw[if_neg (Nat.not_lt_zero _)]) ?_ (Ae _ _)
 ·rw[Bj _ (by show h.next<h.next+1+1;omega),Bj _ (by show h.next<h.next+1;omega)];exact Ae _ _
 ·rw[Bj _ (by show h.next+1<h.next+1+1;omega)];exact Ae _ _
theorem Ayw(A:An disp){e:Nat}(he:2<=e){h:Aa}{b:Nat}{x p:List EV}(hg:h.get b=some (.cells p 103))(hx:x.length=64)(hp:p.length=64)(ux:U8 x)(up:U8 p)(hb:HB h)(hK:100<K):
 Ok (P0 (Ad TT disp K e false) (Ad TT disp K e true) (.func 239 [] [.ptr b 0]) [.agg x] h) fun v h'=>v=.agg (Qo x p)/\Ext h h'/\HB h':=by
 obtain⟨d,rfl⟩:∃ k,e=k+1:=⟨e-1,by omega⟩
 show Ok (Ad TT disp K (d+1) false 239 [.agg x,.ptr b 0] h) _
 rw[Xt A (by omega)]
 simp only[T7,Ab]
 have x1:Ext h ((h.new (.cells x 103)).new (.cells (List.replicate 64 (.int .u8 0)) 103)):=(A1.new _ _).Gg _
 have g2:((h.new (.cells x 103)).new (.cells (List.replicate 64 (.int .u8 0)) 103)).get h.next=some (.cells x 103):=by
  rw[Bj _ (by show h.next<h.next+1;omega)];exact Ae _ _
 have g3:((h.new (.cells x 103)).new (.cells (List.replicate 64 (.int .u8 0)) 103)).get (h.next+1)=some (.cells Abf 103):=Ae _ _
 rw[show (h.new (.cells x 103)).next=h.next+1 from rfl]
 generalize (h.new (.cells x 103)).new (.cells (List.replicate 64 (.int .u8 0)) 103)=h1 at x1 g2 g3 ⊢
 have hb1:=x1.hb hb
 have gb:=x1.at hb hg
 rw[Gf g2 rfl,Ax hx]
 simp only[Ab]
 rw[Gf gb rfl,Ax hp]
 simp only[Ab]
 refine(A1u (K:=K) hx hp ux up hb1 hK).Aj ?_
 rintro _ h2 ⟨rfl,x2,hb2⟩
 have g3:=x2.at hb1 g3
 have hl:=Ah0 hx hp
 refine Ok.st (Qo x p) g3 rfl (by show K9 (Qo x p)=64;rw[Dx,hl]) (Gc (by rw[Ag8];exact hl.symm)) ?_
 rw[Ls (Ai _ _ _) Aox.1 Aox.2 hl]
 exact .ret ⟨rfl,(x1.trans x2).Az (.inr (by omega)) (hb2 _ _ g3) _,hb2.put (hb2 _ _ g3) _⟩
end Go.Ev

namespace Go.Ev
open Go.Proofs
set_option maxRecDepth 100000
variable {K:Nat}{disp:Nat->Option FT}
theorem Agx:∀ (l vs:List EV),vs.length<=l.length->G4 l vs=some (vs++l.drop vs.length)
 | l,[],_=>by cases l <;> rfl
 | [],_::_,h=>by simp at h
 | a::l,v::vs,h=>by
  show (match G4 l vs with|some x=>some (v::x)|none=>none)=_
  rw[Agx l vs (by simpa using h)];rfl
theorem Aig:∀ (l:List EV) (off:Nat) (vs:List EV),off+vs.length<=l.length->E2 l off vs=some (l.take off++vs++l.drop (off+vs.length))
 | [],off,vs,h=>by
  have h0:off=0/\vs = []:=by simp at h;exact⟨h.1,h.2⟩
  obtain⟨rfl,rfl⟩:=h0;rfl
 | a::l,0,vs,h=>by
  show G4 (a::l) vs=_
  rw[Agx _ _ (by omega)];simp
 | a::l,off+1,vs,h=>by
  show (match E2 l off vs with|some x=>some (a::x)|none=>none)=_
  rw[Aig l off vs (by simp at h;omega)]
  simp only[List.take_succ_cons,List.cons_append]
  rw[show off+1+vs.length=(off+vs.length)+1 by omega,List.drop_succ_cons]
theorem Y7 {l vs:List EV}{off:Nat}(h:off+vs.length<=l.length):Kl l off vs=some (l.take off++vs++l.drop (off+vs.length)):=by rw[X3,Aig _ _ _ h]
theorem Adw {n:Nat}:∀ (l:List (List EV)),(∀ x ∈ l,x.length=n)->l.flatten.length=l.length*n
 | [],_=>by simp
 | a::l,hw=>by
  rw[List.flatten_cons,List.length_append,Adw l fun x hx=>hw x (List.mem_cons_of_mem _ hx),hw a (List.mem_cons_self ..),List.length_cons,Nat.add_mul];omega
theorem Alz {n:Nat}{l:List (List EV)}(hw:∀ x ∈ l,x.length=n){j:Nat}(hj:j<l.length):l.flatten=(l.take j).flatten++l[j]++(l.drop (j+1)).flatten/\(l.take j).flatten.length=j*n/\l[j].length=n:=by
 refine⟨?_,?_,hw _ (List.getElem_mem _)⟩
 ·have:l=l.take j++l[j]::l.drop (j+1):=by rw[<-List.drop_eq_getElem_cons hj,List.take_append_drop]
  conv=>lhs;rw[this]
  rw[List.flatten_append,List.flatten_cons,List.append_assoc]
 ·rw[Adw (n:=n) _ fun x hx=>hw x (List.mem_of_mem_take hx),List.length_take,Nat.min_eq_left (by omega)]
theorem Ax2 {n:Nat}{l:List (List EV)}(hw:∀ x ∈ l,x.length=n){j:Nat}(hj:j<l.length):Na l.flatten (j*n) n=some l[j]:=by
 obtain⟨e,h1,h2⟩:=Alz hw hj
 rw[e,Ki (by rw[List.length_append,List.length_append,h1,h2];omega),<-h1,List.append_assoc,List.drop_left,<-h2,List.take_left]
theorem Azi {n:Nat}{l:List (List EV)}(hw:∀ x ∈ l,x.length=n){j:Nat}(hj:j<l.length){v:List EV}(hv:v.length=n):Kl l.flatten (j*n) v=some (l.set j v).flatten:=by
 obtain⟨e,h1,h2⟩:=Alz hw hj
 have e2:(l.set j v).flatten=(l.take j).flatten++v++(l.drop (j+1)).flatten:=by
  rw[List.set_eq_take_append_cons_drop,if_pos hj,List.flatten_append,List.flatten_cons,List.append_assoc]
 have hl:l.flatten.length=j*n+n+(l.drop (j+1)).flatten.length:=by rw[e,List.length_append,List.length_append,h1,h2]
 have t1:l.flatten.take (j*n)=(l.take j).flatten:=by rw[e,List.append_assoc,<-h1,List.take_left]
 have t2:l.flatten.drop (j*n+n)=(l.drop (j+1)).flatten:=by
  rw[show j*n+n=((l.take j).flatten++l[j]).length by rw[List.length_append,h1,h2],e,List.drop_left]
 rw[Y7 (by rw[hl,hv];omega),hv,t1,t2,e2]
def Zn.change(Z:Zn)(off:Int)(p:List EV):Zn:=if 0<=off/\off<Z.l.length then { Z with l:=Z.l.set off.toNat (Qo (((Z.l[off.toNat]?).getD Abf)) p) } else Z
theorem Zn.Wf.change {Z:Zn}{size:Nat}(w:Z.Wf size)(off:Int){p:List EV}(hp:U8 p):(Z.change off p).Wf size:=by
 unfold Zn.change
 split
 ·refine⟨fun x hx=>?_,w.st,by simp only[List.length_set];exact w.safe,by simp only[List.length_set];exact w.len,by simp only[List.length_set];exact w.room⟩
  rcases List.mem_or_eq_of_mem_set hx with hx|hx
  ·exact w.u8 x hx
  ·rw[hx]
   refine U8.xor ?_ hp
   cases hg:Z.l[off.toNat]? with
   | none=>exact U8.zs
   | some y=>exact w.u8 _ (List.mem_of_getElem? hg)
 ·exact w
theorem Al9(A:An disp){e:Nat}(he:2<=e){h:Aa}{z q size:Nat}{Z:Zn}(zz:Ej h z q size Z)(w:Z.Wf size)(hs:size<=64)(hb:HB h)(off:Int){b:Nat}{p:List EV}(hg:h.get b=some (.cells p 103))(hp:p.length=64)(up:U8 p)(hK:100<K):
 Ok (Hh (Ad TT disp K e false) (Ad TT disp K e true) K (.ptr z 0) (I off) (.func 239 [] [.ptr b 0]) h) fun v h'=>v=I (if 0<=off/\off<Z.l.length then 0 else 31)/\Ej h' z q size (Z.change off p)/\A1 (fun j=>Z.l ≠ []/\j=q) h h'/\HB h':=by
 obtain⟨s,g,r⟩:=zz.B4
 have lz:=hb _ _ g
 have no:¬ (0<=off/\off<Z.l.length)->Ok (some (I 31,h)) fun v h'=>v=I (if 0<=off/\off<Z.l.length then 0 else 31)/\Ej h' z q size (Z.change off p)/\A1 (fun j=>Z.l ≠ []/\j=q) h h'/\HB h':=fun hn=>by
  unfold Zn.change
  rw[if_neg hn,if_neg hn]
  exact .ret ⟨rfl,zz,A1.refl _,hb⟩
 simp only[Hh,I,Ah]
 by_cases h0:off<0
 ·rw[decide_eq_true h0]
  simp only[Ab,Ah,Cv]
  exact no fun y=>by omega
 ·rw[decide_eq_false h0]
  simp only[Ab,Ah,Cl g rfl,r.H8]
  by_cases h1:(Z.l.length:Int)<=off
  ·rw[decide_eq_true h1]
   simp only[Ab,Cv]
   exact no fun y=>by omega
  ·rw[decide_eq_false h1]
   obtain⟨j,rfl⟩:∃ j:Nat,off=j:=⟨off.toNat,by omega⟩
   have hj:j<Z.l.length:=by omega
   have rb:=r.block (by omega)
   have lq:=hb _ _ rb
   have hyes:(0:Int)<=(j:Int)/\(j:Int)<Z.l.length:=by omega
   unfold Zn.change
   rw[if_pos hyes,if_pos hyes,Int.toNat_natCast,List.getElem?_eq_getElem hj,Option.getD_some]
   obtain⟨_,hj64⟩:=(Alz zz.wf hj).2
   simp only[Ab,Cv,Jr,Bh]
   rw[As lz (by kernel_rfl),Cl g rfl]
   simp only[Ab,Bh]
   rw[As lz (by kernel_rfl),Cl g rfl]
   simp only[Ab,Bh,r.ix hj]
   rw[As lq (by kernel_rfl),Gn rb rfl (Ax2 zz.wf hj)]
   simp only[Bh]
   refine Ok.Ct (by kernel_rfl) (by kernel_rfl) (Ayw (K:=K) A he (h:=h.lift) (by rw[Cq];exact hg) hj64 hp (w.u8 _ (List.getElem_mem _)) up (Fh hb) hK) (fun _ _ p=>p.2.1) ?_
   rintro _ h1 h2 ⟨rfl,_,hb1⟩ sm x2
   have hb2:=x2.hb hb
   have rb2:=x2.at hb rb
   have hl:=Ah0 hj64 hp
   rw[Wd (by kernel_rfl),A5b (v:=.agg (Qo Z.l[j] p)) rb2 rfl (by show K9 (Qo Z.l[j] p)=64;rw[Dx,hl]) (Azi zz.wf hj hl)]
   have lq2:=hb2 _ _ rb2
   refine .ret ⟨rfl,⟨⟨s,?_,?_⟩,fun x hx=>?_⟩,(Ext.to x2).Az (.inl ⟨fun y=>by rw[y]at hj;simp at hj,rfl⟩) lq2 _,hb2.put lq2 _⟩
   ·rw[Al _ (Ba rb g (by simp))];exact x2.at hb g
   ·refine .inr ⟨by rw[List.length_set];omega,by rw[List.length_set];exact r.slice (by omega),Ai _ _ _,?_⟩
    rw[Adw (n:=64),List.length_set]
    intro x hx
    rcases List.mem_or_eq_of_mem_set hx with hx|hx
    ·exact zz.wf x hx
    ·rw[hx];exact hl
   ·rcases List.mem_or_eq_of_mem_set hx with hx|hx
    ·exact zz.wf x hx
    ·rw[hx];exact hl
theorem Ap7(A:An disp){d:Nat}(hd:4<=d){h:Aa}{V:Nat}{D:Dv}{F:Nat->Prop}(s:F8 h V D F)(hb:HB h)(hK:100<K)(z off:Int){p:List EV}(hp:p.length=64)(up:U8 p):
 Ok (Ad TT disp K d false 225 [.ptr V 0,I z,I off,.agg p] h) fun v h'=>(∃ n:Int,v=I n/\(n=0 ↔ D.has z=true/\0<=off/\off<(D.zs z.toNat).l.length))/\F8 h' V (D.Aos z off p) (Bo F h h')/\A1 F h h'/\HB h':=by
 obtain⟨e,rfl⟩:∃ k,d=k+1:=⟨d-1,by omega⟩
 rw[Abh A (by omega)]
 simp only[W6,Ab]
 have x1:Ext h (h.new (.cells p 103)):=A1.new _ _
 have g5:(h.new (.cells p 103)).get h.next=some (.cells p 103):=Ae _ _
 have hb1:HB (h.new (.cells p 103)):=hb.new _
 have s1:=s.ext x1
 generalize h.new (.cells p 103)=h1 at x1 g5 hb1 s1 ⊢
 rw[Zl s1]
 unfold Dv.Aos
 cases hh:D.has z with
 | false=>
  simp only[Ab,Bool.false_eq_true,false_and,if_false]
  exact .ret ⟨⟨13,rfl,by simp⟩,s1.grow s.lt x1.next,Ext.to x1,hb1⟩
 | true=>
  have hz:=of_decide_eq_true hh
  obtain⟨j,rfl⟩:∃ j:Nat,z=j:=⟨z.toNat,by omega⟩
  have hj:j<D.n:=by omega
  obtain⟨w,wl,zl,zp,q,a,b⟩:=s1
  have w':=w.zs j hj
  simp only[Ab,Sf,a.list,a.A2b hj,Int.toNat_natCast,true_and]
  obtain⟨f,rfl⟩:∃ k,e=k+1:=⟨e-1,by omega⟩
  rw[Pj A (by omega)]
  refine(Al9 (K:=K) (e:=f) A (by omega) (a.B4 j hj) w' w.size hb1 off g5 hp up hK).Aj ?_
  rintro _ h2 ⟨rfl,z2,c2,hb2⟩
  obtain⟨d3,c23⟩:=F8.B4 w a b wl hb1 hj (w'.change off up) z2 (c2.mono fun _=>.inr) hb2 (fun y=>.inr ⟨rfl,fun e=>y (by unfold Zn.change;split <;> simp[e])⟩)
  refine .ret ⟨⟨_,rfl,by split <;> simp_all⟩,?_,(Ext.to x1).trans c23,hb2⟩
  have d4:F8 h2 V (D.set j ((D.zs j).change off p)) (Bo F h h2):=d3.mono (fun i hi=>by
   rcases hi with y|y
   ·exact .inl y
   ·exact .inr ⟨Nat.le_trans x1.next y.1,y.2⟩) (Bo.lt s.lt (Nat.le_trans x1.next c23.next))
  unfold Zn.change at d4
  split
  ·rename_i hc
   rw[if_pos hc]at d4;exact d4
  ·rename_i hc
   rw[if_neg hc]at d4
   have e:D.set j (D.zs j)=D:=by
    unfold Dv.set
    have:N9 D.zs j (D.zs j)=D.zs:=by funext i;unfold N9;split <;> simp_all
    rw[this]
   rw[e]at d4;exact d4
end Go.Ev

namespace Go.Ev
open Go.Proofs
set_option maxRecDepth 100000
variable {K:Nat}{disp:Nat->Option FT}
theorem V9.len {e:V9}(w:e.Wf):e.cells.length=68:=by unfold V9.cells;rw[List.length_append,w.len];rfl
theorem V9.A08 {e:V9}(w:e.Wf):Na e.cells 4 64=some e.pat:=by
 rw[Ki (by rw[V9.len w];omega)]
 show some ((e.pat).take 64)=_
 rw[List.take_of_length_le (by rw[w.len];omega)]
theorem V9.one(e:V9):e.cells[0]? = some (I e.Q0)/\e.cells[1]? = some (I e.kind)/\e.cells[2]? = some (I e.B4)/\e.cells[3]? = some (I e.off):=⟨rfl,rfl,rfl,rfl⟩
theorem Ew.call {h h3 h4:Aa}{D V M qc qh:Nat}{cs hs:EV}{ms:List (EV × EV)}{S:I8}{F G:Nat->Prop}{dv:Dv}(s:Ew h D S G)(a:Uz h D V M qc qh cs hs ms S F G)(hb:HB h)(d3:F8 h3 V dv (Bo F h.lift h3))(sm:Af8 h3 h4)(c4:A1 F h h4):
 Ew h4 D { S with dv:=dv } (Bo G h h4)/\A1 G h h4/\Uz h4 D V M qc qh cs hs ms { S with dv:=dv } (Bo F h h4) (Bo G h h4):=by
 have d4:F8 h4 V dv (Bo F h h4):=by
  have:=d3.frame (h':=h4) (by rw[sm.next];exact Nat.le_refl _) fun j _=>sm.get j
  refine this.mono (fun j hj=>?_) (Bo.lt a.dev.lt c4.next)
  rcases hj with y|y
  ·exact .inl y
  ·exact .inr ⟨y.1,by rw[sm.next];exact y.2⟩
 have:=s.put a hb d4 c4
 exact⟨this.1,this.2,a.put hb d4 c4⟩
theorem Aqp(A:An disp)(hK:1000<K){d:Nat}(hd:6<=d){h:Aa}{D:Nat}{S:I8}{G:Nat->Prop}(s:Ew h D S G)(hb:HB h){e:V9}(w:e.Wf):
 Ok (Ad TT disp K d false 205 [.ptr D 0,.agg e.cells] h) fun v h'=>Ew h' D { S with dv:=S.dv.Aos e.B4 e.off e.pat } (Bo G h h')/\A1 G h h'/\HB h':=by
 obtain⟨dd,rfl⟩:∃ k,d=k+1:=⟨d-1,by omega⟩
 rw[Adu A (by omega)]
 simp only[Xz,Ab]
 have x1:Ext h (h.new (.cells e.cells 105)):=A1.new _ _
 have g3:(h.new (.cells e.cells 105)).get h.next=some (.cells e.cells 105):=Ae _ _
 have hb1:HB (h.new (.cells e.cells 105)):=hb.new _
 have s1:=s.ext x1
 have n1:(h.new (.cells e.cells 105)).next=h.next+1:=rfl
 generalize h.new (.cells e.cells 105)=h1 at x1 g3 hb1 s1 n1 ⊢
 have nx:¬ G h.next:=fun y=>Nat.lt_irrefl _ (s.lt _ y)
 obtain⟨V,M,qc,qh,cs,hs,ms,F,a⟩:=s1.Q0
 have lD:=hb1 _ _ a.Cz
 have l3:=hb1 _ _ g3
 obtain⟨_,_,e2,e3⟩:=e.one
 rw[As lD (by kernel_rfl),Cl a.Cz rfl]
 try simp only[Ab,Bh]
 rw[As l3 (by kernel_rfl),A3 g3 rfl e2]
 try simp only[Ab,Bh]
 rw[As l3 (by kernel_rfl),A3 g3 rfl e3]
 try simp only[Ab,Bh]
 rw[As l3 (by kernel_rfl),Gn g3 rfl (V9.A08 w)]
 try simp only[Ab,Bh]
 refine Ok.Aqi (S:=F) (by kernel_rfl) (by kernel_rfl) (fun _=>by kernel_rfl) (Ap7 (K:=K) A (by omega) a.dev.lift (Fh hb1) (by omega) e.B4 e.off w.len w.u8) (fun _ _ p=>p.2.2.1) ?_
 rintro _ h3 h4 s' ⟨⟨n,rfl,_⟩,d3,_,hb3⟩ sm c4 _
 obtain⟨s4,c14,a4⟩:=s1.call a hb1 d3 sm c4
 have hb4:=sm.hb hb3
 have g3:=c14.at hb1 g3 nx
 have fin:∀ (h5:Aa) (G5:Nat->Prop),Ew h5 D { S with dv:=S.dv.Aos e.B4 e.off e.pat } G5->(∀ i,G5 i->Bo G h h5 i)->A1 (Bo G h1 h4) h4 h5->HB h5->Ok (some (.tuple [],h5)) fun v h'=>Ew h' D { S with dv:=S.dv.Aos e.B4 e.off e.pat } (Bo G h h')/\A1 G h h'/\HB h':=fun h5 G5 s5 g5 c5 hb5=>by
  have cc:A1 G h h5:=((Ext.to x1).trans c14).then c5 fun j hj hl=>by
   rcases hj with y|y
   ·exact y
   ·omega
  exact .ret ⟨s5.mono g5 (Bo.lt s.lt cc.next),cc,hb5⟩
 have gr:∀ h5:Aa,h4.next<=h5.next->∀ i,Bo G h1 h4 i->Bo G h h5 i:=fun h5 l i hi=>by
  rcases hi with y|y
  ·exact .inl y
  ·exact .inr ⟨by omega,by omega⟩
 simp only[Ah,I]
 by_cases hn:n=0
 ·subst hn
  simp only[not_true_eq_false,decide_false,Ab,Tz]
  rw[A3 g3 rfl e2]
  try simp only[Ab]
  rw[A3 g3 rfl e3]
  rw[Ca (l:=[I e.B4,I e.off]) rfl]
  try simp only[Ab]
  have x5:Ext h4 (h4.new (.cells [I 0,I 0] 243)):=A1.new _ _
  have g4':(h4.new (.cells [I 0,I 0] 243)).get h4.next=some (.cells [I 0,I 0] 243):=Ae _ _
  refine Ok.st [I e.B4,I e.off] (o:=0) (l:=[I 0,I 0]) (Ae _ _) rfl rfl rfl ?_
  have x5:Ext h4 ((h4.new (.cells [I 0,I 0] 243)).put h4.next (.cells [I e.B4,I e.off] 243)):=(A1.new h4 _:Ext _ _).Az (.inr (Nat.le_refl _)) (Nat.lt_succ_self _) _
  have g4:((h4.new (.cells [I 0,I 0] 243)).put h4.next (.cells [I e.B4,I e.off] 243)).get h4.next=some (.cells [I e.B4,I e.off] 243):=Ai _ _ _
  have n5:((h4.new (.cells [I 0,I 0] 243)).put h4.next (.cells [I e.B4,I e.off] 243)).next=h4.next+1:=rfl
  simp only[I]at x5 g4 n5 ⊢
  generalize (h4.new (.cells [EV.int .i64 0,.int .i64 0] 243)).put h4.next (.cells [.int .i64 e.B4,.int .i64 e.off] 243)=h5 at x5 g4 n5 ⊢
  have hb5:=x5.hb hb4
  have s5:=s4.ext x5
  have g3:=x5.at hb4 g3
  have a5:=a4.frame x5.next fun i hi=>x5.get i (s4.lt i hi) id
  have lD5:=hb5 _ _ a5.Cz
  have l45:=hb5 _ _ g4
  have l35:=hb5 _ _ g3
  rw[As lD5 (by kernel_rfl),Cl a5.Cz rfl]
  try simp only[Ab,Bh]
  rw[As l45 (by kernel_rfl),Gn g4 rfl (Ax (n:=2) rfl)]
  try simp only[Ab,Bh]
  obtain⟨p,k,el,up,lp⟩:=Ayu (h:=h5.lift) (by rw[Cq];exact a5.map) a5.marks e.B4 e.off
  simp only[kp,I]at el
  rw[Nq (by kernel_rfl) (by kernel_rfl) el]
  try simp only[Ab,Bh]
  have x6:Ext h5 ((h5.new (.cells (List.replicate 64 (EV.int .u8 0)++[EV.int .i64 0]) 320)).put h5.next (.cells (p++[I k]) 320)):=(A1.new h5 _:Ext _ _).Az (.inr (Nat.le_refl _)) (Nat.lt_succ_self _) _
  have g6:((h5.new (.cells (List.replicate 64 (EV.int .u8 0)++[EV.int .i64 0]) 320)).put h5.next (.cells (p++[I k]) 320)).get h5.next=some (.cells (p++[I k]) 320):=Ai _ _ _
  rw[Wd (by kernel_rfl)]
  refine Ok.st (p++[I k]) (Ae _ _) rfl (by show K9 (p++[I k])=65;rw[Dx,List.length_append,lp];rfl) (Gc (by rw[List.length_append,List.length_replicate];show _=(p++[I k]).length;rw[List.length_append,lp];rfl)) ?_
  generalize (h5.new (.cells (List.replicate 64 (EV.int .u8 0)++[EV.int .i64 0]) 320)).put h5.next (.cells (p++[I k]) 320)=h6 at x6 g6 ⊢
  have hb6:=x6.hb hb5
  have s6:=s5.ext x6
  have g3:=x6.at hb5 g3
  have g4:=x6.at hb5 g4
  have a6:=a5.frame x6.next fun i hi=>x6.get i (s5.lt i hi) id
  have lD6:=hb6 _ _ a6.Cz
  have l46:=hb6 _ _ g4
  have l36:=hb6 _ _ g3
  have l66:=hb6 _ _ g6
  try simp only[Ab,Bh]
  rw[As lD6 (by kernel_rfl),Cl a6.Cz rfl]
  try simp only[Ab,Bh]
  rw[As l46 (by kernel_rfl),Gn g4 rfl (Ax (n:=2) rfl)]
  try simp only[Ab,Bh]
  rw[As l66 (by kernel_rfl),Gn g6 rfl (l':=p) (by rw[Ki (by rw[List.length_append,lp];show 0+64<=64+1;omega),List.drop_zero,<-lp,List.take_left])]
  try simp only[Ab,Bh]
  rw[As l36 (by kernel_rfl),Gn g3 rfl (V9.A08 w)]
  try simp only[Ab,Bh]
  refine Ok.Ct (by kernel_rfl) (by kernel_rfl) (A1u (K:=K) lp w.len up w.u8 (Fh hb6) (by omega)) (fun _ _ p=>p.2.1) ?_
  rintro _ h7' h7 ⟨rfl,_,_⟩ sm7 x7
  have hb7:=x7.hb hb6
  have s7:=s6.ext x7
  have a7:=a6.frame x7.next fun i hi=>x7.get i (s6.lt i hi) id
  have g6:=x7.at hb6 g6
  try simp only[Ab,Bh]
  rw[As l66 (by kernel_rfl),A3 g6 rfl (v:=I k) (by rw[List.getElem?_append_right (by omega),lp];rfl)]
  simp only[Ab,Bh,I,Ah]
  have xl:=Ah0 lp w.len
  rw[Ca (l:=Qo p e.pat++[I (Dk .i64 (k+1))]) (by
   show Ww (G3 [(0,64),(64,1)]) [(0,.agg (Qo p e.pat)),(1,.int .i64 (Dk .i64 (k+1)))] (List.replicate 64 (.int .u8 0)++[.int .i64 0])=_
   have e1:Kl (List.replicate 64 (EV.int .u8 0)++[EV.int .i64 0]) 0 (Qo p e.pat)=some (Qo p e.pat++[EV.int .i64 0]):=by
    rw[Y7 (by rw[List.length_append,xl,List.length_replicate];show 0+64<=64+1;omega),xl];rfl
   have e2:Kl (Qo p e.pat++[EV.int .i64 0]) 64 [EV.int .i64 (Dk .i64 (k+1))]=some (Qo p e.pat++[I (Dk .i64 (k+1))]):=by
    rw[Y7 (by rw[List.length_append,xl];show 64+1<=64+1;omega),<-xl,List.take_left,List.drop_of_length_le (by rw[List.length_append];exact Nat.le_refl _),List.append_nil]
   show Ar (Nat.beq (K9 (Qo p e.pat)) 64) (oB (fun z=>Ww (G3 [(0,64),(64,1)]) [(1,.int .i64 (Dk .i64 (k+1)))] z) (Kl (List.replicate 64 (EV.int .u8 0)++[EV.int .i64 0]) 0 (Qo p e.pat))) none=_
   rw[Dx,xl,Nat.beq_refl,Ak,e1]
   show oB (fun z=>some z) (Kl (Qo p e.pat++[EV.int .i64 0]) 64 [EV.int .i64 (Dk .i64 (k+1))])=_
   rw[e2];rfl)]
  obtain⟨ms',eu,hm'⟩:=Apu (h:=h7.lift) (M:=M) (ms:=ms) (by rw[Cq];exact a7.map) a7.marks e.B4 e.off (p:=Qo p e.pat) (n:=Dk .i64 (k+1)) (up.xor w.u8) xl
  simp only[kp,I]at eu
  have lM:=hb7 _ _ a7.map
  refine Ok.Aqi (S:=fun i=>i=M) (by kernel_rfl) (by kernel_rfl) (fun _=>by kernel_rfl) (P:=fun v h'=>v=.tuple []/\h'=h7.lift.put M (.map ms')) ⟨_,_,eu,rfl,rfl⟩ (fun _ _ p=>by rw[p.2];exact(A1.refl (S:=fun i=>i=M) _).Az (.inl rfl) (h:=h7.lift) lM _) ?_
  rintro _ _ h9 s9' ⟨rfl,rfl⟩ sm9 c9 _
  obtain⟨s8,c8,hb8⟩:=s7.A3k a7 hb7 hm'
  have e9:∀ i,h9.get i=(h7.put M (.map ms')).get i:=fun i=>by
   rw[sm9.get,Aa.get_put,Aa.get_put,Cq]
  have n9:h9.next=h7.next:=sm9.next
  have s9:=s8.frame (h':=h9) (by rw[n9];exact Nat.le_refl _) fun i _=>e9 i
  refine fin h9 _ s9 (gr h9 (by have:=x5.next;have:=x6.next;have:=x7.next;omega)) ?_ (c9.hb hb7)
  refine((Ext.to x5).trans ((Ext.to x6).trans (Ext.to x7))).then c9 fun i hi _=>?_
  subst hi
  exact a4.sub.2.2.1
 ·simp only[hn,not_false_eq_true,decide_true,Ab]
  exact fin h4 _ s4 (gr h4 (Nat.le_refl _)) (A1.refl _) hb4
end Go.Ev

namespace Go.Ev
open Go.Proofs
set_option maxRecDepth 100000
variable {K:Nat}{disp:Nat->Option FT}
theorem Uz.own {h h':Aa}{D V M qc qh qc' qh':Nat}{cs hs cs' hs':EV}{ms:List (EV × EV)}{S:I8}{F G:Nat->Prop}(a:Uz h D V M qc qh cs hs ms S F G)(hb:HB h){ev Po:List V9}
 (g:h'.get D=some (.cells [.ptr V 0,cs',hs',.map M] 166)) (rc:Bz h' cs' qc' 105 68 ev.length (ev.map V9.cells).flatten) (rh:Bz h' hs' qh' 105 68 Po.length (Po.map V9.cells).flatten)
 (n:h.next<=h'.next) (k:∀ i,i<h.next->i ≠ D->(0<S.ev.length->i ≠ qc)->(0<S.Po.length->i ≠ qh)->h'.get i=h.get i) (sz:∀ i,G i->i<h.next)
 (fc:0<ev.length->h.next<=qc'/\qc'<h'.next\/qc'=qc/\0<S.ev.length) (fh:0<Po.length->h.next<=qh'/\qh'<h'.next\/qh'=qh/\0<S.Po.length) (ne:0<ev.length->0<Po.length->qc' ≠ qh') :
 Uz h' D V M qc' qh' cs' hs' ms ⟨S.dv,ev,Po⟩ F (Bo G h h'):=by
 obtain⟨b1,b2,b3,b4,b5⟩:=a.sub
 obtain⟨c1,c2,c3,c4,c5⟩:=a.apart
 have lM:=hb _ _ a.map
 have eM:h'.get M=h.get M:=k _ lM (Ba a.map a.Cz (by simp)) (fun y=>Ba a.map (a.Ha.block y) (by simp)) (fun y=>Ba a.map (a.Afa.block y) (by simp))
 refine⟨g,by rw[eM];exact a.map,a.marks,rc,rh,a.dev.frame n fun i hi=>k i (sz i (b1 i hi)) (fun y=>c1 (y ▸ hi)) (fun y z=>c3 y (z ▸ hi)) (fun y z=>c4 y (z ▸ hi)),⟨fun i hi=>.inl (b1 i hi),.inl b2,.inl b3,fun y=>?_,fun y=>?_⟩,⟨c1,c2,fun y z=>?_,fun y z=>?_,ne⟩⟩
 ·rcases fc y with z|⟨z,z'⟩
  ·exact .inr z
  ·rw[z];exact .inl (b4 z')
 ·rcases fh y with z|⟨z,z'⟩
  ·exact .inr z
  ·rw[z];exact .inl (b5 z')
 ·rcases fc y with x|⟨x,x'⟩
  ·have:=sz _ (b1 _ z);omega
  ·rw[x]at z;exact c3 x' z
 ·rcases fh y with x|⟨x,x'⟩
  ·have:=sz _ (b1 _ z);omega
  ·rw[x]at z;exact c4 x' z
theorem A0e(A:An disp)(hK:1000<K){d:Nat}(hd:7<=d){h:Aa}{D:Nat}{S:I8}{G:Nat->Prop}(s:Ew h D S G)(hb:HB h){e:V9}(w:e.Wf)(hn:S.ev.length+S.Po.length<200):
 Ok (Ad TT disp K d false 169 [.ptr D 0,.agg e.cells] h) fun v h'=>Ew h' D { S with dv:=S.dv.Qa e,Po:=S.Po++[e] } (Bo G h h')/\A1 G h h'/\HB h':=by
 obtain⟨dd,rfl⟩:∃ k,d=k+1:=⟨d-1,by omega⟩
 rw[Aaw A (by omega)]
 simp only[Wa,Ab]
 have x1:Ext h (h.new (.cells e.cells 105)):=A1.new _ _
 have g3:(h.new (.cells e.cells 105)).get h.next=some (.cells e.cells 105):=Ae _ _
 have hb1:HB (h.new (.cells e.cells 105)):=hb.new _
 have s1:=s.ext x1
 have n1:(h.new (.cells e.cells 105)).next=h.next+1:=rfl
 generalize h.new (.cells e.cells 105)=h1 at x1 g3 hb1 s1 n1 ⊢
 have nx:¬ G h.next:=fun y=>Nat.lt_irrefl _ (s.lt _ y)
 obtain⟨V,M,qc,qh,cs,hs,ms,F,a⟩:=s1.Q0
 have lD:=hb1 _ _ a.Cz
 have l3:=hb1 _ _ g3
 have el:=V9.len w
 rw[As lD (by kernel_rfl),Cl a.Cz rfl]
 try simp only[Ab,Bh]
 rw[As l3 (by kernel_rfl),Gn g3 rfl (Ax el)]
 try simp only[Ab,Bh]
 rw[Sc (v:=.agg e.cells) (z:=List.replicate 4 (EV.int .i64 0)++List.replicate 64 (EV.int .u8 0)) rfl (by simp) el (by omega),A0]
 have x2:Ext h1 (h1.new (.cells (EV.cells (.agg e.cells)) 105)):=A1.new _ _
 have gx:(h1.new (.cells (EV.cells (.agg e.cells)) 105)).get h1.next=some (.cells e.cells 105):=Ae _ _
 have n2:(h1.new (.cells (EV.cells (.agg e.cells)) 105)).next=h1.next+1:=rfl
 generalize h1.new (.cells (EV.cells (.agg e.cells)) 105)=h2 at x2 gx n2 ⊢
 have hb2:=x2.hb hb1
 have g3:=x2.at hb1 g3
 have s2:=s1.ext x2
 have a2:=a.frame x2.next fun i hi=>x2.get i (s1.lt i hi) id
 have r2:Bz h2.lift hs qh 105 68 S.Po.length (S.Po.map V9.cells).flatten:=a2.Afa.frame fun _=>Cq _ _
 obtain⟨h3,e3,r3,n3,c3⟩:=Rj (x:=.slice h1.next 0 1 1 false) (n:=1) r2 rfl (by omega) (by omega) (by omega) (Ql (b:=h1.next) (by rw[Cq];exact gx) el) (by rw[el])
 refine Ok.Aqi (S:=fun i=>0<S.Po.length/\i=qh) (by kernel_rfl) (by kernel_rfl) (fun _=>by kernel_rfl) (P:=fun v h'=>v=.slice h2.lift.next 0 (S.Po.length+1) (S.Po.length+1) true/\h'=h3) ⟨_,_,e3,rfl,rfl⟩ (fun _ _ p=>by rw[p.2];exact c3) ?_
 rintro _ _ h4 s' ⟨rfl,rfl⟩ sm x4 hs'
 have hb4:=x4.hb hb2
 rw[X1]at r3 n3
 rw[X1]
 have hnq:¬ (0<S.Po.length/\D=qh):=fun y=>Ba a2.Cz (a2.Afa.block y.1) (by simp) y.2
 have gD:h4.get D=some (.cells [.ptr V 0,cs,hs,.map M] 166):=A1.at x4 hb2 a2.Cz hnq
 have r4:Bz h4 (.slice h2.next 0 (S.Po.length+1) (S.Po.length+1) true) h2.next 105 68 (S.Po.length+1) ((S.Po.map V9.cells).flatten++e.cells):=r3.frame fun _=>sm.get _
 have g3:h4.get h.next=some (.cells e.cells 105):=A1.at x4 hb2 g3 fun y=>by
  have:=a2.Afa.block y.1
  exact Ba g3 this (by simp) y.2
 have lD4:=hb4 _ _ gD
 try simp only[Ab]
 rw[Wd (by rcases hs' with rfl|⟨w,rfl,_⟩ <;> kernel_rfl)]
 refine Ok.st1 gD rfl rfl (by show 2<4;decide) ?_
 simp only[List.set]
 have l34:=hb4 _ _ g3
 have h2l4:h2.next<h4.next:=by
  have:=r4.block (by omega)
  exact hb4 _ _ this
 have gD5:(h4.put D (.cells [EV.ptr V 0,cs,.slice h2.next 0 (S.Po.length+1) (S.Po.length+1) true,.map M] 166)).get D=some (.cells [EV.ptr V 0,cs,.slice h2.next 0 (S.Po.length+1) (S.Po.length+1) true,.map M] 166):=Ai _ _ _
 have k5:∀ i,i ≠ D->(h4.put D (.cells [EV.ptr V 0,cs,.slice h2.next 0 (S.Po.length+1) (S.Po.length+1) true,.map M] 166)).get i=h4.get i:=fun i hi=>Al _ (Ne.symm hi)
 have n5:(h4.put D (.cells [EV.ptr V 0,cs,.slice h2.next 0 (S.Po.length+1) (S.Po.length+1) true,.map M] 166)).next=h4.next:=rfl
 have hb5:HB (h4.put D (.cells [EV.ptr V 0,cs,.slice h2.next 0 (S.Po.length+1) (S.Po.length+1) true,.map M] 166)):=hb4.put lD4 _
 have c5:A1 (Bo G h1 h2) h2 (h4.put D (.cells [EV.ptr V 0,cs,.slice h2.next 0 (S.Po.length+1) (S.Po.length+1) true,.map M] 166)):=(x4.mono (fun i hi=>.inl (by rw[hi.2];exact a2.sub.2.2.2.2 hi.1))).Az (.inl (.inl a.sub.2.1)) lD4 _
 generalize h4.put D (.cells [EV.ptr V 0,cs,.slice h2.next 0 (S.Po.length+1) (S.Po.length+1) true,.map M] 166)=h5 at gD5 k5 n5 hb5 c5 ⊢
 have neD3:h.next ≠ D:=fun y=>nx (y ▸ a.sub.2.1)
 have g3:h5.get h.next=some (.cells e.cells 105):=by rw[k5 _ neD3];exact g3
 have lD5:D<h5.next:=by rw[n5];exact lD4
 have l35:h.next<h5.next:=by rw[n5];exact l34
 have a5:Uz h5 D V M qc h2.next cs (.slice h2.next 0 (S.Po.length+1) (S.Po.length+1) true) ms ⟨S.dv,S.ev,S.Po++[e]⟩ F (Bo G h2 h5):=by
  refine a2.own hb2 gD5 ?_ ?_ c5.next (fun i hi h1 _ h3=>?_) s2.lt (fun y=>.inr ⟨rfl,y⟩) (fun _=>.inl ⟨Nat.le_refl _,by rw[n5];exact h2l4⟩) (fun y _=>?_)
  ·refine a2.Ha.frame fun y=>?_
   have gc:=a2.Ha.block y
   rw[k5 _ (Ba gc a2.Cz (by simp)),A1.at x4 hb2 gc fun z=>a2.apart.2.2.2.2 y z.1 z.2,gc]
  ·rw[List.length_append,List.map_append,List.flatten_append]
   show Bz h5 _ _ 105 68 (S.Po.length+1) ((S.Po.map V9.cells).flatten++(e.cells++[]))
   rw[List.append_nil]
   exact r4.frame fun _=>k5 _ (by have:=hb2 _ _ a2.Cz;omega)
  ·rw[k5 i h1]
   exact x4.get i hi fun y=>h3 y.1 y.2
  ·have:=hb2 _ _ (a2.Ha.block y);omega
 have lt5:∀ i,Bo G h2 h5 i->i<h5.next:=Bo.lt s2.lt c5.next
 have s5:Ew h5 D ⟨S.dv,S.ev,S.Po++[e]⟩ (Bo G h2 h5):=by
  refine⟨lt5,⟨by rw[List.length_append];show S.ev.length+(S.Po.length+1)<=200;omega,s.wf.wf,fun x hx=>?_⟩,V,M,qc,_,cs,_,ms,F,a5⟩
  rcases List.mem_append.1 hx with hx|hx
  ·exact s.wf.Vk x hx
  ·rw[List.mem_singleton.1 hx];exact w
 have c05:A1 G h h5:=((Ext.to x1).trans (Ext.to x2)).then c5 fun j hj hl=>by
  rcases hj with y|y
  ·exact y
  ·omega
 have cG:∀ h9,h5.next<=h9.next->A1 (Bo G h2 h5) h5 h9->A1 G h h9:=fun h9 l c=>c05.then c fun j hj hl=>by
  rcases hj with y|y
  ·exact y
  ·have:=x1.next;have:=x2.next;omega
 have fin:∀ (h9:Aa) (dv:Dv),Ew h9 D ⟨dv,S.ev,S.Po++[e]⟩ (Bo (Bo G h2 h5) h5 h9)->A1 (Bo G h2 h5) h5 h9->HB h9->dv=S.dv.Qa e->Ok (some (.tuple [],h9)) fun v h'=>Ew h' D ⟨S.dv.Qa e,S.ev,S.Po++[e]⟩ (Bo G h h')/\A1 G h h'/\HB h':=fun h9 dv s9 c9 hb9 he=>by
  subst he
  refine .ret ⟨s9.mono (fun i hi=>?_) (Bo.lt s.lt (cG h9 c9.next c9).next),cG h9 c9.next c9,hb9⟩
  rcases hi with (y|y)|y
  ·exact .inl y
  ·have:=x1.next;have:=x2.next;have:=c9.next;exact .inr ⟨by omega,by omega⟩
  ·exact .inr ⟨by have:=c05.next;omega,y.2⟩
 obtain⟨_,e1,e2,_⟩:=e.one
 rw[A3 g3 rfl e1]
 simp only[Ah,I]
 have fails:∀ st:Nat,S.dv.fail e.B4 st=S.dv.Qa e ->
  Ok (Ct 6 63 (((DX.ld ⟨0,[],[],[],[]⟩ 3 D).ld 5 h.next)) h5 (fun h=>Ia K (.ptr V 0) (I e.B4) (I st) h) fun _ h s=>some (.tuple [],h)) fun v h'=>Ew h' D ⟨S.dv.Qa e,S.ev,S.Po++[e]⟩ (Bo G h h')/\A1 G h h'/\HB h':=by
  intro st hst
  refine Ok.Aqi (S:=F) (by kernel_rfl) (by kernel_rfl) (fun _=>by kernel_rfl) (Asr (K:=K) a5.dev.lift (Fh hb5) e.B4 st) (fun _ _ p=>p.2.1) ?_
  rintro _ h6 h9 s' ⟨d6,_,hb6⟩ sm c9 _
  obtain⟨s9,c59,_⟩:=s5.call a5 hb5 d6 sm c9
  exact fin h9 _ s9 c59 (sm.hb hb6) hst
 by_cases k1:e.kind=1
 ·simp only[k1,decide_true,Ab]
  rw[Gn g3 rfl (Ax el)]
  refine(Aqp (K:=K) A hK (by omega) s5 hb5 w).Aj ?_
  rintro _ h9 ⟨s9,c9,hb9⟩
  exact fin h9 _ s9 c9 hb9 (by unfold Dv.Qa;rw[if_pos k1])
 ·simp only[k1,decide_false,Ab]
  by_cases k2:e.kind=2
  ·simp only[k2,decide_true,Ab,Bh]
   rw[As lD5 (by kernel_rfl),Cl gD5 rfl]
   try simp only[Ab,Bh]
   rw[As l35 (by kernel_rfl),A3 g3 rfl e2]
   exact fails 3 (by unfold Dv.Qa;rw[if_neg k1,if_pos k2])
  ·simp only[k2,decide_false,Ab]
   by_cases k3:e.kind=3
   ·simp only[k3,decide_true,Ab,Bh]
    rw[As lD5 (by kernel_rfl),Cl gD5 rfl]
    try simp only[Ab,Bh]
    rw[As l35 (by kernel_rfl),A3 g3 rfl e2]
    exact fails 4 (by unfold Dv.Qa;rw[if_neg k1,if_neg k2,if_pos k3])
   ·simp only[k3,decide_false,Ab]
    by_cases k4:e.kind=4
    ·simp only[k4,decide_true,Ab,Cl gD5 rfl]
     refine(Apr (K:=K) a5.dev hb5).Aj ?_
     rintro _ h9 ⟨d9,c9,hb9⟩
     obtain⟨s9,c59⟩:=s5.put a5 hb5 (d9.grow a5.dev.lt c9.next) c9
     exact fin h9 _ s9 c59 hb9 (by unfold Dv.Qa;rw[if_neg k1,if_neg k2,if_neg k3,if_pos k4])
    ·simp only[k4,decide_false,Ab]
     exact fin h5 S.dv (s5.grow s5.lt (Nat.le_refl _)) (A1.refl _) hb5 (by unfold Dv.Qa;rw[if_neg k1,if_neg k2,if_neg k3,if_neg k4])
theorem Ayo(q o n r:Nat)(op:Bool)(k:EV->R):Aq G7 (bin TT .eql 101) (.slice q o n r op) .Af k=k (.bool false):=by kernel_rfl
theorem Avk(q o z:Nat)(k:EV->R):Aq G7 (bin TT .eql 101) (.tail q o z) .Af k=k (.bool false):=by kernel_rfl
theorem Apx {h:Aa}{q:Nat}{e:V9}{ev:List V9}(w:∀ x ∈ e::ev,x.Wf)(hn:ev.length<=65000)(hg:h.get q=some (.vec ((e::ev).map V9.cells).flatten 105 68))(hb:HB h){kk:EV->Aa->R}{Q:EV->Aa->Prop}
 (hk:∀ v h' q',Bz h' v q' 105 68 ev.length (ev.map V9.cells).flatten->Ext h h'->(0<ev.length->h.next<=q')->Ok (kk v h') Q) :
 Ok (Arj 68 (.slice q 0 (e::ev).length (e::ev).length true) (some (.int .i64 1)) none none fun v=>Aj (B0 K v h) kk) Q:=by
 have x1:Ext h (h.new (.cells [] 105)):=A1.new _ _
 have eb:B3 (List.replicate 4 (.int .i64 0)++List.replicate 64 (.int .u8 0)) 105 68 0 [] h=some (.slice h.next 0 0 0 false,h.new (.cells [] 105)):=rfl
 have wl:∀ x ∈ ev.map V9.cells,x.length=68:=fun x hx=>by
  obtain⟨y,hy,rfl⟩:=List.mem_map.1 hx
  exact V9.len (w y (List.mem_cons_of_mem _ hy))
 have fl:(ev.map V9.cells).flatten.length=ev.length*68:=by rw[Adw _ wl,List.length_map]
 rcases Nat.eq_zero_or_pos ev.length with h0|hp
 ·have:ev = []:=List.length_eq_zero_iff.1 h0
  subst this
  have e1:∀ k:EV->R,Arj 68 (.slice q 0 [e].length [e].length true) (some (.int .i64 1)) none none k=k (.tail q 68 0):=fun k=>rfl
  rw[e1]
  simp only[B0,Avk,Ab,Ea]
  rw[eb,A0]
  have:Da 105 68 (.slice h.next 0 0 0 false) (.tail q 68 0) (h.new (.cells [] 105))=some (.slice h.next 0 0 0 false,h.new (.cells [] 105)):=by unfold Da;rfl
  rw[this,A0]
  try simp only[Ab]
  exact hk _ _ 0 (.empty _ _ _ _ _) x1 fun y=>absurd y (Nat.lt_irrefl _)
 ·obtain⟨m,hm⟩:∃ m,ev.length=m+1:=⟨ev.length-1,by omega⟩
  have e1:∀ k:EV->R,Arj 68 (.slice q 0 (e::ev).length (e::ev).length true) (some (.int .i64 1)) none none k=k (.slice q 68 ev.length ev.length true):=fun k=>by
   rw[List.length_cons,hm];rfl
  rw[e1]
  simp only[B0,Ayo,Ab,Ea]
  rw[eb,A0]
  have hc:N4 (h.new (.cells [] 105)) 68 ev.length (.slice q 68 ev.length ev.length true)=some (ev.map V9.cells).flatten:=by
   show Ar (Nat.beq ev.length 0) (some []) (Vx _ q 68 (Nat.mul ev.length 68))=_
   rw[show Nat.beq ev.length 0=false by rw[hm];rfl,Av]
   unfold Vx Wi
   rw[x1.at hb hg]
   have el:=V9.len (w e (List.mem_cons_self ..))
   show Na (e.cells++(ev.map V9.cells).flatten) 68 (ev.length*68)=_
   rw[Ki (by rw[List.length_append,el,fl];exact Nat.le_refl _),<-el,List.drop_left,List.take_of_length_le (by rw[fl,el];exact Nat.le_refl _)]
  have ap:=Aac (h:=h.new (.cells [] 105)) (b:=h.next) (e:=105) (x:=.slice q 68 ev.length ev.length true) rfl (by omega) hc fl 0
  rw[show ∀ (x:R) (k k':EV->Aa->R),Aj (Aj x k) k'=Aj x fun v h=>Aj (k v h) k' from fun x k k'=>by cases x <;> rfl]
  refine ap.Aj ?_
  rintro v h2 ⟨q',r,x2,l⟩
  rw[A0]
  exact hk v h2 q' r (x1.trans x2) fun y=>by have:=l y;have:=x1.next;omega
theorem A1g(A:An disp)(hK:1000<K){d:Nat}(hd:9<=d){D:Nat}:∀ (m:Nat) (S:I8) (h:Aa) (G:Nat->Prop),S.ev.length<m->Ew h D S G->HB h ->
 Ok (Dz (Ad TT disp K d false) (Ad TT disp K d true) K m (.ptr D 0) h) fun v h'=>Ew h' D S.due (Bo G h h')/\A1 G h h'/\HB h':=by
 intro m
 induction m with
 | zero=>intro S h G hm;omega
 | succ m ih=>
  intro S h G hm s hb
  obtain⟨V,M,qc,qh,cs,hs,ms,F,a⟩:=s.Q0
  obtain⟨zl,z,q,b,_⟩:=a.dev.Q0
  have lD:=hb _ _ a.Cz
  have lV:=hb _ _ b.dev
  have stay:S.due=S->Ok (some (.tuple [],h)) fun(_:EV) h'=>Ew h' D S.due (Bo G h h')/\A1 G h h'/\HB h':=fun y=>by
   rw[y];exact .ret ⟨s.grow s.lt (Nat.le_refl _),A1.refl _,hb⟩
  simp only[Dz,Ab,Bh,As lD,Cl a.Cz rfl]
  have hdn:J9 K (.ptr V 0) h.lift=some (.bool S.dv.down,h.lift):=by
   simp only[J9,Ab,Cl b.lift.dev rfl]
  rw[Nq (by kernel_rfl) (by kernel_rfl) hdn]
  obtain⟨dv,ev,Po⟩:=S
  simp only at a hdn b hm ⊢
  cases hdd:dv.down with
  | true=>
   simp only[Ab,Ah,Bh,Jm,Hp]
   refine stay ?_
   unfold I8.due
   cases ev with
   | nil=>rfl
   | cons e r=>unfold Aq9;rw[if_pos (.inl hdd)]
  | false=>
   simp only[Ab,Ah,Bh]
   rw[As lD (by kernel_rfl),Cl a.Cz rfl]
   simp only[Ab,a.Ha.H8,Ah]
   cases ev with
   | nil=>
    simp only[List.length_nil,Jm,Hp,Ab,Ah]
    exact stay rfl
   | cons e r=>
    have we:=s.wf.wf e (List.mem_cons_self ..)
    have el:=V9.len we
    have gq:=a.Ha.block (Nat.succ_pos _)
    have lq:=hb _ _ gq
    have c0:Na (((e::r).map V9.cells).flatten) 0 68=some e.cells:=by
     show Na (e.cells++_) 0 68=_
     rw[Ki (by rw[List.length_append,el];omega),List.drop_zero,<-el,List.take_left]
    have at0:(((e::r).map V9.cells).flatten)[0]? = some (I e.Q0):=rfl
    rw[decide_eq_true (show (0:Int)<((e::r).length:Int) by rw[List.length_cons];omega)]
    simp only[Jm,Ab,Ah,Bh]
    rw[As lD (by kernel_rfl),Cl a.Cz rfl]
    try simp only[Ab,Bh]
    rw[show ∀ k:EV->R,Ib 68 cs (.int .i64 0) k=k (.ptr qc (0*68)) from fun k=>a.Ha.ix (Nat.succ_pos _) .i64 k]
    try simp only[Ab,Bh]
    rw[As lq (by kernel_rfl),A3 gq rfl at0]
    try simp only[Ab,Bh]
    rw[As lD (by kernel_rfl),Cl a.Cz rfl]
    try simp only[Ab,Bh]
    have hct:Jg K (.ptr V 0) h.lift=some (I dv.cnt,h.lift):=by
     simp only[Jg,Ab,Cl b.lift.dev rfl]
    rw[Nq (by kernel_rfl) (by kernel_rfl) hct]
    simp only[I,Ah]
    by_cases hat:e.Q0<=dv.cnt
    ·rw[decide_eq_true hat]
     simp only[Hp,Ab,W9,Cl a.Cz rfl]
     rw[show ∀ k:EV->R,Ib 68 cs (.int .i64 0) k=k (.ptr qc (0*68)) from fun k=>a.Ha.ix (Nat.succ_pos _) .i64 k]
     rw[Gn gq rfl c0]
     try simp only[Ab]
     have el0:(List.replicate 4 (EV.int .i64 0)++List.replicate 64 (EV.int .u8 0)).length=68:=by simp
     refine Ok.st e.cells (Ae _ _) rfl (by show K9 e.cells=68;rw[Dx,el]) (Gc (by rw[el0];exact el.symm)) ?_
     have x1:Ext h ((h.new (.cells (List.replicate 4 (EV.int .i64 0)++List.replicate 64 (EV.int .u8 0)) 105)).put h.next (.cells e.cells 105)):=(A1.new h _:Ext _ _).Az (.inr (Nat.le_refl _)) (Nat.lt_succ_self _) _
     have g2:((h.new (.cells (List.replicate 4 (EV.int .i64 0)++List.replicate 64 (EV.int .u8 0)) 105)).put h.next (.cells e.cells 105)).get h.next=some (.cells e.cells 105):=Ai _ _ _
     generalize (h.new (.cells (List.replicate 4 (EV.int .i64 0)++List.replicate 64 (EV.int .u8 0)) 105)).put h.next (.cells e.cells 105)=h1 at x1 g2 ⊢
     have hb1:=x1.hb hb
     have s1:=s.ext x1
     have a1:=a.frame x1.next fun i hi=>x1.get i (s.lt i hi) id
     have gq1:=a1.Ha.block (Nat.succ_pos _)
     have hcs:=a1.Ha.slice (Nat.succ_pos _)
     subst hcs
     simp only[Ab,Cl a1.Cz rfl]
     have hev:=s.wf.ev
     refine Apx (K:=K) s.wf.wf (by simp only[List.length_cons]at hev;omega) gq1 hb1 ?_
     intro v h2 q' r2 x2 lq'
     have hb2:=x2.hb hb1
     have s2:=s1.ext x2
     have a2:=a1.frame x2.next fun i hi=>x2.get i (s1.lt i hi) id
     have g2:=x2.at hb1 g2
     try simp only[Ab]
     have lD2:=hb2 _ _ a2.Cz
     refine Ok.st1 a2.Cz r2.plain.1 r2.plain.2 (by show 1<4;decide) ?_
     simp only[List.set]
     have gD3:(h2.put D (.cells [EV.ptr V 0,v,hs,.map M] 166)).get D=some (.cells [EV.ptr V 0,v,hs,.map M] 166):=Ai _ _ _
     have k3:∀ i,i ≠ D->(h2.put D (.cells [EV.ptr V 0,v,hs,.map M] 166)).get i=h2.get i:=fun i hi=>Al _ (Ne.symm hi)
     have hb3:HB (h2.put D (.cells [EV.ptr V 0,v,hs,.map M] 166)):=hb2.put lD2 _
     have c3:A1 G h2 (h2.put D (.cells [EV.ptr V 0,v,hs,.map M] 166)):=(A1.refl h2).Az (.inl a.sub.2.1) lD2 _
     have n3:(h2.put D (.cells [EV.ptr V 0,v,hs,.map M] 166)).next=h2.next:=rfl
     generalize h2.put D (.cells [EV.ptr V 0,v,hs,.map M] 166)=h3 at gD3 k3 hb3 c3 n3 ⊢
     have nD:h.next ≠ D:=by omega
     have g3:h3.get h.next=some (.cells e.cells 105):=by rw[k3 _ nD];exact g2
     have rb:0<r.length->q'<h2.next:=fun y=>hb2 _ _ (r2.block y)
     have a3:Uz h3 D V M q' qh v hs ms ⟨dv,r,Po⟩ F (Bo G h1 h3):=by
      have h13:h1.next<=h3.next:=by rw[n3];exact x2.next
      have k13:∀ i,i<h1.next->i ≠ D->h3.get i=h1.get i:=fun i hi hne=>by rw[k3 i hne,x2.get i hi id]
      refine a1.own hb1 gD3 (r2.frame fun y=>k3 _ (by have:=lq' y;have:=hb1 _ _ a1.Cz;omega)) (a1.Afa.frame fun y=>k13 _ (hb1 _ _ (a1.Afa.block y)) (Ba (a1.Afa.block y) a1.Cz (by simp))) h13 (fun i hi h1 _ _=>k13 i hi h1) s1.lt
       (fun y=>.inl ⟨lq' y,by rw[n3];exact rb y⟩) (fun y=>.inr ⟨rfl,y⟩) fun y z=>?_
      have:=lq' y;have:=hb1 _ _ (a1.Afa.block z);omega
     have c13:A1 G h h3:=((Ext.to x1).trans (Ext.to x2)).trans c3
     have s3:Ew h3 D ⟨dv,r,Po⟩ (Bo G h1 h3):=by
      refine⟨Bo.lt s1.lt (by rw[n3];exact x2.next),⟨?_,fun x hx=>s.wf.wf x (List.mem_cons_of_mem _ hx),s.wf.Vk⟩,V,M,q',qh,v,hs,ms,F,a3⟩
      have:=s.wf.ev
      simp only[List.length_cons]at this ⊢
      omega
     rw[Gn g3 rfl (Ax el)]
     refine(A0e (K:=K) A hK (by omega) s3 hb3 we (by have:=s.wf.ev;simp only[List.length_cons]at this ⊢;omega)).Aj ?_
     rintro _ h4 ⟨s4,c4,hb4⟩
     have hdue:(I8.mk dv (e::r) Po).due=(I8.mk (dv.Qa e) r (Po++[e])).due:=by
      unfold I8.due
      conv=>lhs;unfold Aq9
      rw[if_neg (by rw[hdd];rintro(y|y);exact absurd y (by simp);exact y hat)]
     rw[hdue]
     refine(ih ⟨dv.Qa e,r,Po++[e]⟩ h4 _ (by simp only[List.length_cons]at hm ⊢;omega) s4 hb4).mono ?_
     rintro _ h5 ⟨s5,c5,hb5⟩
     have t1:=x1.next
     have t2:=x2.next
     have t4:=c4.next
     have t5:=c5.next
     have c4':A1 G h h4:=c13.then c4 fun j hj hl=>by
      rcases hj with y|y
      ·exact y
      ·omega
     have c5':A1 G h h5:=c4'.then c5 fun j hj hl=>by
      rcases hj with (y|y)|y
      ·exact y
      ·omega
      ·omega
     refine⟨s5.mono (fun i hi=>?_) (Bo.lt s.lt c5'.next),c5',hb5⟩
     rcases hi with ((y|y)|y)|y
     ·exact .inl y
     ·exact .inr ⟨by omega,by omega⟩
     ·exact .inr ⟨by omega,by omega⟩
     ·exact .inr ⟨by omega,y.2⟩
    ·rw[decide_eq_false hat]
     simp only[Hp,Ab]
     refine stay ?_
     unfold I8.due Aq9
     rw[if_pos (.inr hat)]
theorem A0m(A:An disp)(hK:1000<K)(S:I8):∀ d,12<=d->A5w disp K d S:=by
 intro d hd h D G s hb
 obtain⟨e,rfl⟩:∃ k,d=k+1:=⟨d-1,by omega⟩
 rw[Agk A (by omega)]
 exact A1g (K:=K) A hK (by omega) K S h G (by have:=s.wf.ev;omega) s hb
end Go.Ev

namespace Go.Ev
open Go.Proofs
set_option maxRecDepth 100000
variable {K:Nat}{disp:Nat->Option FT}
def Out(F:Nat->Prop)(h:Aa):Nat->Prop:=fun i=>i<h.next/\¬ F i
abbrev Kf(F:Nat->Prop):Aa->Aa->Prop:=A1 fun i=>¬ F i
theorem A1.kf {F:Nat->Prop}{h h':Aa}(c:A1 (Out F h) h h'):Kf F h h':=c.mono fun _ y=>y.2
theorem Ext.kf {F:Nat->Prop}{h h':Aa}(c:Ext h h'):Kf F h h':=Ext.to c
theorem Kf.less {F F':Nat->Prop}{h h':Aa}(c:Kf F h h')(s:∀ i,F' i->F i):Kf F' h h':=c.mono fun i y z=>y (s i z)
theorem Kf.at {F:Nat->Prop}{h h':Aa}(c:Kf F h h')(hb:HB h){i:Nat}{o:Cu}(g:h.get i=some o)(hF:F i):h'.get i=some o:=A1.at c hb g fun y=>y hF
theorem Qm.frame {h h':Aa}{m:Nat}{S:Mi}{H:Nat->Prop}(s:Qm h m S H)(n:h.next<=h'.next)(e:∀ i,H i->h'.get i=h.get i):Qm h' m S H:=by
 obtain⟨lt,D,p,bl,ql,np,q,c,G,a⟩:=s
 obtain⟨t1,t2,t3,t4,t5,t6⟩:=a.sub
 have k:∀ i o,h.get i=some o->H i->h'.get i=some o:=fun i o g hi=>by rw[e i hi];exact g
 exact⟨fun i hi=>Nat.lt_of_lt_of_le (lt i hi) n,D,p,bl,ql,np,q,c,G,⟨k _ _ a.Pp.Pp t2,k _ _ a.Pp.Akm t3⟩,
  ⟨a.Fe.pos,k _ _ a.Fe.Fe t4,k _ _ a.Fe.row t5,fun d hd=>k _ _ (a.Fe.que d hd) (t6 d hd).1,fun d hd=>k _ _ (a.Fe.chan d hd) (t6 d hd).2,a.Fe.inj⟩,
  a.psz,a.drv.frame n fun i hi=>e i (t1 i hi),a.apart,a.sub⟩
structure Mi.Wp(S:Mi):Prop where
 sm:Sm S.g
 ps:∀ d,d<S.g.D.toNat->∀ x ∈ S.ps d,Fs S.g x=d/\¬ S.bad x.toNat=1
structure Mi.Wf(S:Mi):Prop extends S.Wp where
 op:(S.a = -1/\S.b = -1)\/((0<=Fs S.g S.a/\¬ S.bad S.a.toNat=1)/\(0<=Fs S.g S.b/\¬ S.bad S.b.toNat=1))
theorem Ahn {g:Gm}(s:Sm g){z:Int}(h:0<=Fs g z):Rng z:=by
 have h1:=s.d1;have h2:=s.z1;have h3:=s.d0;have h4:=s.z0
 rcases Z0 s z with y|⟨_,_,_,y1,y2⟩
 ·omega
 ·obtain⟨m0,m1⟩:=S7 (a:=g.D) (b:=g.Z) (A:=8) (B:=64) (by omega) (by omega) (by omega) (by omega)
  exact⟨by omega,by omega⟩
theorem Akw {g:Gm}(s:Sm g){z:Int}(h:0<=Fs g z):0<=z:=by
 rcases Z0 s z with y|⟨_,_,_,y1,y2⟩ <;> omega
theorem Mi.Wf.rng {S:Mi}(w:S.Wf):Rng S.a/\Rng S.b:=by
 rcases w.op with ⟨h1,h2⟩|⟨h1,h2⟩
 ·rw[h1,h2];exact⟨⟨by omega,by omega⟩,⟨by omega,by omega⟩⟩
 ·exact⟨Ahn w.sm h1.1,Ahn w.sm h2.1⟩
theorem Aol {g:Gm}{ps:Nat->List Int}{P:Int->Prop}(w:∀ d,d<g.D.toNat->∀ x ∈ ps d,Fs g x=d/\P x)(n:Nat)(z:Int)(hz:0<=Fs g z->P z):∀ d,d<g.D.toNat->∀ x ∈ (Aeu g n ps z).2 d,Fs g x=d/\P x:=by
 intro d hd x hx
 unfold Aeu at hx
 split at hx
 ·exact w d hd x hx
 ·rename_i h0
  split at hx
  ·exact w d hd x hx
  ·split at hx
   ·simp only[upd]at hx
    split at hx
    ·rename_i e
     subst e
     rcases List.mem_append.1 hx with hx|hx
     ·exact w _ hd x hx
     ·rw[List.mem_singleton.1 hx];exact⟨by omega,hz (by omega)⟩
    ·exact w d hd x hx
   ·exact w d hd x hx
theorem Av2(S:Mi)(z u:Int):(S.leave z u).1.g=S.g/\(S.leave z u).1.a=S.a/\(S.leave z u).1.b=S.b/\(S.leave z u).1.u=S.u/\(S.leave z u).1.bad=S.bad:=by
 unfold Mi.leave
 split
 ·exact⟨rfl,rfl,rfl,rfl,rfl⟩
 ·split <;> exact⟨rfl,rfl,rfl,rfl,rfl⟩
theorem Mi.Wp.leave {S:Mi}(w:S.Wp)(z u:Int):(S.leave z u).1.Wp:=by
 unfold Mi.leave
 split
 ·exact w
 ·rename_i h0
  split
  ·refine⟨w.sm,Aol w.ps _ _ fun hz y=>h0 (.inr (.inl ?_))⟩
   unfold Mi.U2
   rw[decide_eq_true hz,decide_eq_true y];rfl
  ·exact⟨w.sm,w.ps⟩
theorem A3z(S:Mi):S.close.1.g=S.g/\S.close.1.a = -1/\S.close.1.b = -1/\S.close.1.u=0/\S.close.1.bad=S.bad:=by
 unfold Mi.close
 obtain⟨a1,a2,a3,a4,a5⟩:=Av2 { S with a:=-1,b:=-1,u:=0 } S.a S.u
 obtain⟨b1,b2,b3,b4,b5⟩:=Av2 (({ S with a:=-1,b:=-1,u:=0 }:Mi).leave S.a S.u).1 S.b S.u
 exact⟨b1.trans a1,b2.trans a2,b3.trans a3,b4.trans a4,b5.trans a5⟩
theorem Mi.Wp.close {S:Mi}(w:S.Wp):S.close.1.Wf:=by
 have:({ S with a:=-1,b:=-1,u:=0 }:Mi).Wp:=⟨w.sm,w.ps⟩
 obtain⟨a1,a2,a3,a4,a5⟩:=A3z S
 exact { toWp:=(this.leave _ _).leave _ _,op:=.inl ⟨a2,a3⟩ }
theorem Mi.Wp.mark {S:Mi}(w:S.Wp){z:Int}(hz:0<=Fs S.g z):(S.mark z).Wp:=by
 refine⟨w.sm,fun d hd x hx=>?_⟩
 have hx:x ∈ S.dropped z d:=hx
 unfold Mi.dropped at hx
 rw[if_neg (by omega)]at hx
 have key:∀ x,Fs S.g x=d/\¬ S.bad x.toNat=1->¬ x=z->Fs S.g x=d/\¬ (S.mark z).bad x.toNat=1:=fun x hx hn=>by
  refine⟨hx.1,?_⟩
  show ¬ (if x.toNat=z.toNat then (1:Int) else S.bad x.toNat)=1
  have h1:=Akw w.sm hz
  have h2:=Akw w.sm (z:=x) (by rw[hx.1];omega)
  rw[if_neg (by omega)]
  exact hx.2
 simp only[upd]at hx
 split at hx
 ·rename_i e
  have h2:=(List.mem_filter.1 hx).2
  have h1:=w.ps d hd x (by rw[e];exact(List.mem_filter.1 hx).1)
  exact key x h1 (of_decide_eq_true h2)
 ·rename_i hne
  have h1:=w.ps d hd x hx
  refine key x h1 fun y=>hne ?_
  subst y
  omega
theorem Mi.Wf.Gz {S:Mi}(w:S.Wf)(z:Int):(S.Gz z).1.Wf:=by
 unfold Mi.Gz
 split
 ·exact w
 ·rename_i hz
  have hz:0<=Fs S.g z:=by omega
  split
  ·exact w
  ·split
   ·rename_i hn
    refine { toWp:=w.toWp.mark hz,op:=?_ }
    rcases w.op with y|⟨y1,y2⟩
    ·exact .inl y
    ·have key:∀ x,(0<=Fs S.g x/\¬ S.bad x.toNat=1)->¬ z=x->0<=Fs S.g x/\¬ (S.mark z).bad x.toNat=1:=fun x hx hn=>by
      refine⟨hx.1,?_⟩
      show ¬ (if x.toNat=z.toNat then (1:Int) else S.bad x.toNat)=1
      have h1:=Akw w.sm hz
      have h2:=Akw w.sm hx.1
      rw[if_neg (by omega)]
      exact hx.2
     exact .inr ⟨key _ y1 hn.1,key _ y2 hn.2⟩
   ·exact(w.toWp.mark hz).close
structure Er(h:Aa)(m:Nat)(S:Mi)(F:Nat->Prop):Prop where
 s:Qm h m S (Out F h)
 lt:∀ i,F i->i<h.next
 wf:S.Wf
section
variable {h h':Aa}{m:Nat}{S S':Mi}{F F':Nat->Prop}
theorem Er.made(M:Er h m S F)(s:Qm h' m S' (Bo (Out F h) h h'))(c:A1 (Out F h) h h')(w:S'.Wf):Er h' m S' F/\Kf F h h':=by
 refine⟨⟨s.mono (fun i hi=>?_) fun i hi=>hi.1,fun i hi=>Nat.lt_of_lt_of_le (M.lt i hi) c.next,w⟩,c.kf⟩
 rcases hi with hi|hi
 ·exact⟨Nat.lt_of_lt_of_le hi.1 c.next,hi.2⟩
 ·exact⟨hi.2,fun y=>by have:=M.lt i y;omega⟩
theorem Er.ext(M:Er h m S F)(hb:HB h)(x:Ext h h'):Er h' m S (Bo F h h'):=by
 refine⟨(M.s.ext hb x).mono (fun i hi=>⟨Nat.lt_of_lt_of_le hi.1 x.next,fun y=>?_⟩) fun i hi=>hi.1,Bo.lt M.lt x.next,M.wf⟩
 rcases y with y|y
 ·exact hi.2 y
 ·have:=hi.1;omega
theorem Er.less(M:Er h m S F)(s:∀ i,F' i->F i):Er h m S F':=
 ⟨M.s.mono (fun i hi=>⟨hi.1,fun y=>hi.2 (s i y)⟩) fun i hi=>hi.1,fun i hi=>M.lt i (s i hi),M.wf⟩
theorem Er.Ast {T:Nat->Prop}(M:Er h m S F)(c:A1 T h h')(t:∀ i,T i->i<h.next->F i):Er h' m S F:=by
 refine⟨(M.s.frame c.next fun i hi=>c.get i hi.1 fun y=>hi.2 (t i y hi.1)).mono (fun i hi=>⟨Nat.lt_of_lt_of_le hi.1 c.next,hi.2⟩) fun i hi=>hi.1,fun i hi=>Nat.lt_of_lt_of_le (M.lt i hi) c.next,M.wf⟩
theorem Er.same(M:Er h m S F)(sm:Af8 h h'):Er h' m S F:=
 ⟨(M.s.frame (by rw[sm.next];exact Nat.le_refl _) fun i _=>sm.get i).mono (fun i hi=>⟨by rw[sm.next];exact hi.1,hi.2⟩) fun i hi=>hi.1,fun i hi=>by rw[sm.next];exact M.lt i hi,M.wf⟩
end
section
variable (A:An disp)(hK:10000<K){d:Nat}{h:Aa}{m:Nat}{S:Mi}{F:Nat->Prop}(M:Er h m S F)(hb:HB h)
include A hK M hb
theorem Ba5(n:Nat):Alh disp K n:=fun T _ d hd=>A0m A (by omega) T d hd
theorem Amo(hd:18<=d){z:Int}(hz:Rng z):Ok (Ad TT disp K d false 20 [.ptr m 0,I z] h) fun v h'=>v=I (S.Gz z).2/\Er h' m (S.Gz z).1 F/\Kf F h h'/\HB h':=by
 refine(Ace A hK hd (Ba5 A hK M hb S.dr.ev.length) (Nat.le_refl _) M.s hb M.wf.rng.1 M.wf.rng.2 hz).mono ?_
 rintro v h' ⟨e,s,c,hb'⟩
 obtain⟨M',k⟩:=M.made s c (M.wf.Gz z)
 exact⟨e,M',k,hb'⟩
end
end Go.Ev

namespace Go.Ev
open Go.Proofs
set_option maxRecDepth 100000
variable {K:Nat}{disp:Nat->Option FT}
theorem Ew.lift {h:Aa}{D:Nat}{S:I8}{G:Nat->Prop}(d:Ew h D S G):Ew h.lift D S G:=d.frame (Nat.le_refl _) fun i _=>Cq h i
theorem Ew.same {h h3 h4:Aa}{D:Nat}{S:I8}{G:Nat->Prop}(d:Ew h3 D S (Bo G h.lift h3))(sm:Af8 h3 h4):Ew h4 D S (Bo G h h4):=by
 refine(d.frame (h':=h4) (by rw[sm.next];exact Nat.le_refl _) fun j _=>sm.get j).mono (fun j hj=>?_) fun j hj=>?_
 ·rcases hj with y|y
  ·exact .inl y
  ·exact .inr ⟨y.1,by rw[sm.next];exact y.2⟩
 ·rw[sm.next]
  rcases hj with y|y
  ·exact d.lt _ (.inl y)
  ·rw[sm.next]at y;exact y.2
theorem Er.drv {h h':Aa}{m D p bl ql np:Nat}{q c:Nat->Nat}{S:Mi}{G F:Nat->Prop}{dr:I8}(M:Er h m S F)(hb:HB h)(a:Agj h m D p bl ql np q c S G (Out F h))(d:Ew h' D dr (Bo G h h'))(ch:A1 G h h'):
 Er h' m { S with dr:=dr } F/\Kf F h h':=by
 have cH:=ch.mono a.sub.1
 exact M.made ⟨Bo.lt M.s.lt cH.next,D,p,bl,ql,np,q,c,_,a.A0y hb d ch⟩ cH { toWp:=⟨M.wf.sm,M.wf.ps⟩,op:=M.wf.op }
end Go.Ev

namespace Go.Ev
open Go.Proofs
set_option maxRecDepth 100000
variable {K:Nat}{disp:Nat->Option FT}
def Me.zero:Me:=⟨0,0,0,0,0,0⟩
theorem A8r:TT.size 83=some 6/\TT.agg 83=some true:=⟨by kernel_rfl,by kernel_rfl⟩
theorem A4l: [EV.int .i64 0,.int .i64 0,.int .i64 0,.int .i64 0,.int .i64 0,.int .i64 0]=Me.zero.cells:=rfl
end Go.Ev
