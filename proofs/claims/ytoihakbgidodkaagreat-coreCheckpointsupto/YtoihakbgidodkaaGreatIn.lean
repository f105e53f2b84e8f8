import Derived.Test.YtoihakbgidodkaaGreatProg
import Derived.Shelf.Spec.SlicesInsertGrow
import Derived.Test.YtoihakbgidodkaaGreatDa
set_option linter.all false
namespace Go.Ev
open Go.Proofs
set_option maxRecDepth 100000
variable {cur:Array Value}{te:TypeId}{cs vs:List Value}{i n:Nat}
section
open Go.Proofs Go.RowKit Go.Lib Go.Shelf
set_option maxRecDepth 100000
theorem vk {P:Program}(w:World)(m p ty elem:TypeId)(g o b d:Nat)(a:Addr)(sLen sCap:Nat)(cur:Array Value)(t:TypeId)(cs:List Value)(sz:Nat)
 (hu:P.underlying m=some (.slice elem)) (hs:(P.info? elem).map (·.size)=some sz) (q:w.heap[g]? = some (.cells cur t (0,0))) (u:cs.length=Nat.min sLen b*sz)
 (e:∀j v,cs[j]? = some v->w.cell? (a.add j)=some v) (f:o+cs.length<=cur.size) (x:∀v∈cs,v.oneCell'=true) :
 (Builtin.copy_ #[m,p] ty #[.slice (some ⟨g,o,none⟩) b d,.slice (some a) sLen sCap]).run P w =
  .ok (goInt (Nat.min sLen b)) (w.setRow g (cur.toList.take o++cs++cur.toList.drop (o+cs.length)).toArray):=by
 have y:=run_loadCells_list (P:=P) w a cs e;have h:=run_storeCells_at P g o t cs 0 cur w q (by simpa using f) x;cases k:P.info? elem with
 | none=>simp[k]at hs
 | some i=>
  have A:i.size=sz:=by simpa [k]using hs
  simp[Builtin.copy_,run_underlying hu,Builtin.lenOf,Builtin.firstCells,sizeOf,typeInfo,k,A,<-u,y,h]
theorem vl:(Tryz.prog.info? 34).map (·.size)=some 68:=by kernel_rfl
theorem yH:(Tryz.prog.info? 34).map (fun i=>(i.zero,i.size,i.bytes))=some (some (.agg Tryz.zeroCells34),68,96):=by kernel_rfl
theorem Bp5 {w:World}{b d a h j k o:Nat}{m:Array Value}{p:TypeId}(f:d≠b)(q:w.heap[b]? = some (.cells cur te (0,0)))(t:cur.size≠0)(g:w.heap[d]? = some (.cells m p (0,0))):
 (callFunc 128 #[.slice (some ⟨d,a,none⟩) 1 h,.slice (some ⟨b,o,none⟩) j k]).run Tryz.prog w=.ok (.value (.bool false)) w:=by
 rw[run_callFunc_extern Tryz.func128 (by kernel_rfl) (by kernel_rfl) (by kernel_rfl) (e:=Extern.SlicesOverlaps.overlaps #[115,115] #[4]) (by kernel_rfl),
  Lib.run_overlaps_apart w 115 4 34 Tryz.underlying115 68 Tryz.sizeOf34 ⟨d,a,none⟩ ⟨b,o,none⟩ 1 h j k f p te m.size cur.size (by simp[World.shape?,g]) (by simp[World.shape?,q]) t (by simp[World.frozen?,g]) (by simp[World.frozen?,g])]
 rfl
end
section
open Go.Proofs Go.RowKit Go.Lib Go.Shelf
set_option maxRecDepth 100000
theorem Bdb {more:List Value}(e:i<n)(a:cs.length=n*68)(d:68<=more.length)(b:vs.length=68):
 ((((cs++more).take ((i+1)*68)++cs.drop (i*68)++(cs++more).drop ((i+1)*68+(cs.drop (i*68)).length)).take (i*68))++vs++(((cs++more).take ((i+1)*68)++cs.drop (i*68)++(cs++more).drop ((i+1)*68+(cs.drop (i*68)).length)).drop (i*68+vs.length))) =
   cs.take (i*68)++vs++cs.drop (i*68)++more.drop 68:=by
 have l1:((cs++more).take ((i+1)*68)).length=(i+1)*68:=by rw[bH,aE];omega
 have e1:(cs++more).drop ((i+1)*68+(cs.drop (i*68)).length)=more.drop 68:=by
  rw[aU,a,show(i+1)*68+(n*68-i*68)=cs.length+68 from a_,<-cK,dN]
 rw[e1,b,show i*68+68=(i+1)*68 from a_];have e2:((cs++more).take ((i+1)*68)++cs.drop (i*68)++more.drop 68).take (i*68)=cs.take (i*68):=by
  rw[bQ,dP a_,List.take_take,show min (i*68) ((i+1)*68)=i*68 from a_,dP a_]
 have e3:((cs++more).take ((i+1)*68)++cs.drop (i*68)++more.drop 68).drop ((i+1)*68)=cs.drop (i*68)++more.drop 68:=by
  have:=dN (l₁:=(cs++more).take ((i+1)*68)) (l₂:=cs.drop (i*68)++more.drop 68);rw[l1]at this;rw[bQ,this]
 rw[e2,e3];simp only[bQ]
set_option maxHeartbeats 4000000 in
theorem Biq(b n c i vb voff vc:Nat)(cs more vs:List Value)(va:Array Value)(te tv:TypeId)(w:World)(hi:i<n)(hroom:n+1<=c)(hbig:n<=1000)(hvb:vb≠b)
 (hcl:cs.length=n*68) (hml:more.length=(c-n)*68) (hvl:vs.length=68) (hg:w.heap[b]? = some (.cells (cs++more).toArray te (0,0))) (hv:w.heap[vb]? = some (.cells va tv (0,0)))
 (hvs:∀j v,vs[j]? = some v->va[voff+j]? = some v) (h1c:∀v∈cs,v.oneCell'=true) (h1v:∀v∈vs,v.oneCell'=true) :
 Calls Tryz.prog 89 #[.slice (some ⟨b,0,none⟩) n c,.int .i64 i,.slice (some ⟨vb,voff,none⟩) 1 vc] w fun e w'=>
  e=.returned (.slice (some ⟨b,0,none⟩) (n+1) c)/\w'=w.drew.setRow b (cs.take (i*68)++vs++cs.drop (i*68)++more.drop 68).toArray:=by
 have hz2:¬((i:Int)=(n:Int)):=a_
 have hml':68<=more.length:=by rw[hml];omega
 have hsz:((cs++more).toArray).size≠0:=by simp only[cp,aE];omega
 have hov:∀o lb cb,(callFunc 128 #[.slice (some ⟨vb,voff,none⟩) 1 vc,.slice (some ⟨b,o,none⟩) lb cb]).run Tryz.prog w=.ok (.value (.bool false)) w:=fun o lb cb=>Bp5 hvb hg hsz hv
 have hdl:(cs.drop (i*68)).length=(n-i)*68:=by rw[aU,hcl];omega
 have cell:∀j v,cs[j]? = some v->w.cell? ⟨b,j,none⟩=some v:=fun j v h=>by
  simp only[World.cell?,hg];rw[bX,cI (bA.1 h).1];exact h
 have hw1:IntKind.i64.wrap ((i:Int)+1)=(i:Int)+1:=by rw[IntKind.wrap_i64];omega
 have hw2:IntKind.i64.wrap ((n:Int)+1)=(n:Int)+1:=by rw[IntKind.wrap_i64];omega
 have hb1:(0:Int)<=(i:Int)+1:=a_
 have hin:i<=n:=a_
 have htn:((i:Int)+1).toNat=i+1:=a_
 have hb2:¬(c=i+1):=a_
 have hb3:(i:Int)<=(n:Int)+1:=a_
 have hb4:¬(c=i):=a_
 obtain⟨R1,hR1⟩:∃R1:List Value,R1=(cs++more).take ((i+1)*68)++cs.drop (i*68)++(cs++more).drop ((i+1)*68+(cs.drop (i*68)).length):=⟨_,rfl⟩;have hR1l:R1.length=(cs++more).length:=by
  rw[hR1];simp only[aE,bH,aU];omega
 have hcp1:∀ty dc sc,(Builtin.copy_ #[115,115] ty #[.slice (some ⟨b,(i+1)*68,none⟩) (n-i) dc,.slice (some ⟨b,i*68,none⟩) (n+1-i) sc]).run Tryz.prog w.drew=.ok (goInt ((n-i:Nat):Int)) (w.drew.setRow b R1.toArray):=fun ty dc sc=>by
  have:=vk (P:=Tryz.prog) w.drew 115 115 ty 34 b ((i+1)*68) (n-i) dc ⟨b,i*68,none⟩ (n+1-i) sc (cs++more).toArray te (cs.drop (i*68)) 68 Tryz.underlying115 vl hg (by rw[hdl];simp only[gI];split<;>omega)
   (fun j v hj=>by rw[eQ];exact cell (i*68+j) v (by rwa [cq]at hj)) (by rw[hdl];simp;omega) (fun v hv=>h1c v (aG hv))
  rw[this,show Nat.min (n+1-i) (n-i)=n-i by simp only[gI];split<;>omega,dY,hR1]
 have hh1:(w.drew.setRow b R1.toArray).heap[b]? = some (.cells R1.toArray te (0,0)):=setRow_heap w.drew b (cs++more).toArray R1.toArray te _ hg;have hcp2:∀(W:World),W.heap=(w.drew.setRow b R1.toArray).heap->∀ty dc,(Builtin.copy_ #[115,115] ty #[.slice (some ⟨b,i*68,none⟩) (n+1-i) dc,.slice (some ⟨vb,voff,none⟩) 1 vc]).run Tryz.prog W=.ok (goInt 1) (W.setRow b (cs.take (i*68)++vs++cs.drop (i*68)++more.drop 68).toArray):=fun W hW ty dc=>by
  have hv1:W.heap[vb]? = some (.cells va tv (0,0)):=by
   rw[hW,gF w.drew b vb _ hvb];exact hv
  have:=vk (P:=Tryz.prog) W 115 115 ty 34 b (i*68) (n+1-i) dc ⟨vb,voff,none⟩ 1 vc R1.toArray te vs 68 Tryz.underlying115 vl (by rw[hW];exact hh1) (by rw[hvl];simp only[gI];split<;>omega)
   (fun j v hj=>by rw[eQ];simp only[World.cell?,hv1];exact hvs j v hj) (by rw[hvl];simp[hR1l];omega) h1v
  rw[this,show Nat.min 1 (n+1-i)=1 by simp only[gI];split<;>omega];rw[hR1,dY,Bdb hi hcl hml' hvl];rfl
 have mixed:Tryz.prog.follows .mixedOrders=true:=by kernel_rfl
 go_enter Tryz.func89,Tryz.ntmps89
 go_wp2_with (simp only[hov])
 go_region_law_o (refine step_copy_runI rfl _ _ 115 115 rfl _ _ (by simp[Act.eval,Act.put]) (by simp[Act.eval,Act.put]) (hcp1 _ _ _) ?_)
 go_wp2_with (at_builtin;refine wpList_copy_runI _ rfl _ _ 115 115 rfl _ _ rfl rfl (hcp2 _ rfl _ _) ?_)
 go_ret
 exact⟨rfl,by rw[Go.setRow_setRow];simp only[bQ]⟩
theorem A6d(b n c vb voff vc:Nat)(cs more vs:List Value)(va:Array Value)(te tv:TypeId)(w:World)(hroom:n+1<=c)(hbig:n<=1000)
 (hcl:cs.length=n*68) (hml:more.length=(c-n)*68) (hvl:vs.length=68) (hg:w.heap[b]? = some (.cells (cs++more).toArray te (0,0))) (hv:w.heap[vb]? = some (.cells va tv (0,0)))
 (hvs:∀j v,vs[j]? = some v->va[voff+j]? = some v) (h1v:∀v∈vs,v.oneCell'=true) :
 Calls Tryz.prog 89 #[.slice (some ⟨b,0,none⟩) n c,.int .i64 n,.slice (some ⟨vb,voff,none⟩) 1 vc] w fun e w'=>
  e=.returned (.slice (some ⟨b,0,none⟩) (n+1) c)/\w'=w.setCells b (n*68) vs:=by
 obtain⟨i0,hi0,hzz⟩:=Option.map_eq_some_iff.1 yH;simp only[fC]at hzz;obtain⟨hz0,hz1,hz2⟩:=hzz;have hl:(n*68)+68<=((cs++more).toArray).size:=by simp only[cp,aE];omega
 have hsrc:Src Tryz.prog i0.size 115 (.slice (some ⟨vb,voff,none⟩) 1 vc) 1 vs w:=by
  rw[hz1];exact Src.ofSlice w Tryz.underlying115 ⟨vb,voff,none⟩ 1 vc vs a_ (fun j u hj=>by rw[eQ];simp only[World.cell?,hv];exact hvs j u hj) h1v
 have hrun:∀ty,(Builtin.append_ #[115,115] ty #[.slice (some ⟨b,0,none⟩) n c,.slice (some ⟨vb,voff,none⟩) 1 vc]).run Tryz.prog w=.ok (.slice (some ⟨b,0,none⟩) (n+1) c) (w.setCells b (n*68) vs):=fun ty=>by
  have:=run_append_room_src w 115 115 ty 34 i0 Tryz.underlying115 hi0 b 0 n c _ 1 vs hsrc hroom
   (fun j hj=>by rw[hz1];simp only[World.cell?,hg];rw[cU a_];rfl) (fun j hj=>by simp[World.frozen?,hg])
  rw[this,hz1,bI]
 go_enter Tryz.func89,Tryz.ntmps89
 go_wp2_with (at_builtin;refine Lib.wpList_append_run _ rfl _ _ _ _ rfl _ _ rfl rfl _ _ (hrun _) ?_)
 go_ret
 exact⟨rfl,rfl⟩
theorem RZ(base:Option Addr)(n c vb voff vc:Nat)(cs vs:List Value)(va:Array Value)(tv:TypeId)(w:World)(hnc:n<=c)(hroom:c<n+1)(hbig:n<=1000)
 (hcl:cs.length=n*68) (hvl:vs.length=68) (hnil:base=none->n=0) (hcs:∀a,base=some a->∀j v,cs[j]? = some v->w.cell? (a.add j)=some v)
 (hv:w.heap[vb]? = some (.cells va tv (0,0))) (hvs:∀j v,vs[j]? = some v->va[voff+j]? = some v) (h1v:∀v∈vs,v.oneCell'=true) :
 Calls Tryz.prog 89 #[.slice base n c,.int .i64 n,.slice (some ⟨vb,voff,none⟩) 1 vc] w fun e w'=>
  e=.returned (.slice (some ⟨w.heap.size,0,none⟩) (n+1) (grownCap w (n+1) c 34)) /\
  w'=w.drew.alloc (.cells ((cs++vs).toArray++Builtin.zeroCells (Value.agg Tryz.zeroCells34).cells (grownCap w (n+1) c 34-(n+1))) 34):=by
 obtain⟨i0,hi0,hzz⟩:=Option.map_eq_some_iff.1 yH;simp only[fC]at hzz;obtain⟨hz0,hz1,hz2⟩:=hzz;have hsrc:Src Tryz.prog i0.size 115 (.slice (some ⟨vb,voff,none⟩) 1 vc) 1 vs w:=by
  rw[hz1];exact Src.ofSlice w Tryz.underlying115 ⟨vb,voff,none⟩ 1 vc vs a_ (fun j u hj=>by rw[eQ];simp only[World.cell?,hv];exact hvs j u hj) h1v
 have hold:(Builtin.firstCells i0.size n (.slice base n c)).run Tryz.prog w.drew=.ok cs.toArray w.drew:=by
  rw[hz1];cases base with
  | none=>
   have h0:=hnil rfl;subst h0;rw[bh.1 (by omega:cs.length=0)];exact run_firstCells_none w.drew 68 0 0 c
  | some a=>exact run_firstCells_some w.drew 68 n a n c cs a_ (fun j v hj=>hcs a rfl j v hj)
 have hrun:∀ty,(Builtin.append_ #[115,115] ty #[.slice base n c,.slice (some ⟨vb,voff,none⟩) 1 vc]).run Tryz.prog w=_:=fun ty=>
  run_append_grow_src w 115 115 ty 34 i0 _ Tryz.underlying115 hi0 hz0 base n c cs hold _ 1 vs hsrc hroom a_ (by rw[hz2];exact growslice_fits hroom a_)
 go_enter Tryz.func89,Tryz.ntmps89
 cases base with
 | none=>
  have h0:=hnil rfl;subst h0
  go_wp2_with (at_builtin;refine Lib.wpList_append_run _ rfl _ _ _ _ rfl _ _ rfl rfl _ _ (hrun _) ?_)
  go_ret
  exact⟨rfl,rfl⟩
 | some a=>
  obtain⟨ab,ao,asp⟩:=a
  go_wp2_with (at_builtin;refine Lib.wpList_append_run _ rfl _ _ _ _ rfl _ _ rfl rfl _ _ (hrun _) ?_)
  all_goals (go_ret;exact⟨rfl,rfl⟩)
end
section
open Go.Proofs Go.RowKit Go.Lib Go.Shelf
set_option maxRecDepth 100000
theorem Bcr {Z:List Value}(d:i<n)(b:cs.length=n*68)(a:vs.length=68):
 (cs.take (i*68)++Z).take (i*68)++vs++(cs.take (i*68)++Z).drop (i*68+vs.length)=cs.take (i*68)++vs++Z.drop 68:=by
 have l1:(cs.take (i*68)).length=i*68:=by rw[bH];omega
 have e1:(cs.take (i*68)++Z).take (i*68)=cs.take (i*68):=by
  have:=dQ (l₁:=cs.take (i*68)) (l₂:=Z)
  rwa [l1]at this
 have e2:(cs.take (i*68)++Z).drop (i*68)=Z:=by
  have:=dN (l₁:=cs.take (i*68)) (l₂:=Z)
  rwa [l1]at this
 rw[e1,a,<-cK,e2]
theorem Bdl {Z:List Value}(d:i<n)(a:cs.length=n*68)(b:vs.length=68):
 (cs.take (i*68)++vs++Z).take ((i+1)*68)++cs.drop (i*68)++(cs.take (i*68)++vs++Z).drop ((i+1)*68+(cs.drop (i*68)).length)=cs.take (i*68)++vs++cs.drop (i*68)++Z.drop ((n-i)*68):=by
 have l1:(cs.take (i*68)++vs).length=(i+1)*68:=by rw[aE,bH];omega
 have e1:(cs.take (i*68)++vs++Z).take ((i+1)*68)=cs.take (i*68)++vs:=by
  have:=dQ (l₁:=cs.take (i*68)++vs) (l₂:=Z)
  rwa [l1]at this
 have e2:(cs.take (i*68)++vs++Z).drop ((i+1)*68)=Z:=by
  have:=dN (l₁:=cs.take (i*68)++vs) (l₂:=Z)
  rwa [l1]at this
 rw[e1,<-cK,e2,aU,a,show n*68-i*68=(n-i)*68 from a_]
theorem vm(k:Nat):(Builtin.zeroCells (Value.agg Tryz.zeroCells34).cells k).toList.length=k*68:=by
 have e:(Value.agg Tryz.zeroCells34).cells.size=68:=by kernel_rfl
 rw[Array.length_toList,size_zeroCells,e]
set_option maxHeartbeats 4000000 in
theorem Bk9(b n c i vb voff vc:Nat)(cs vs:List Value)(va:Array Value)(tv:TypeId)(w:World)(hi:i<n)(hnc:n<=c)(hroom:c<n+1)(hbig:n<=1000)
 (hcl:cs.length=n*68) (hvl:vs.length=68) (hbw:b<w.heap.size) (hcs:∀(j:Nat) v,cs[j]? = some v->w.cell? ⟨b,j,none⟩=some v)
 (hv:w.heap[vb]? = some (.cells va tv (0,0))) (hvs:∀j v,vs[j]? = some v->va[voff+j]? = some v) (h1c:∀v∈cs,v.oneCell'=true) (h1v:∀v∈vs,v.oneCell'=true) :
 Calls Tryz.prog 89 #[.slice (some ⟨b,0,none⟩) n c,.int .i64 i,.slice (some ⟨vb,voff,none⟩) 1 vc] w fun e w'=>
  e=.returned (.slice (some ⟨w.heap.size,0,none⟩) (n+1) (grownCap w (n+1) c 34))/\∃ROW R1,
  w'=((w.alloc (.cells ROW 34)).drew.setRow w.heap.size R1).drew.setRow w.heap.size (cs.take (i*68)++vs++cs.drop (i*68)++(Builtin.zeroCells (Value.agg Tryz.zeroCells34).cells (grownCap w (n+1) c 34-(n+1))).toList).toArray:=by
 obtain⟨i0,hi0,hzz⟩:=Option.map_eq_some_iff.1 yH;simp only[fC]at hzz;obtain⟨hz0,hz1,hz2⟩:=hzz;have hz2':¬((i:Int)=(n:Int)):=a_
 have hz3:(c:Int)<(n:Int)+1:=a_
 have hvw:vb<w.heap.size:=(br.1 hv).1;have hkk:(n:Int)+1-(i:Int)=((n+1-i:Nat):Int):=a_
 have hik:i+(n+1-i)=n+1:=a_
 have hold:(Builtin.firstCells i0.size i (.slice (some ⟨b,0,none⟩) i c)).run Tryz.prog w.drew=.ok (cs.take (i*68)).toArray w.drew:=by
  rw[hz1];exact run_firstCells_some w.drew 68 i ⟨b,0,none⟩ i c (cs.take (i*68)) (by rw[bH];omega) (fun j v hj=>by
   rw[eQ,bI];rw[eD]at hj;split at hj
   ·exact hcs j v hj
   ·cases hj)
 obtain⟨G,hG⟩:∃G,G=grownCap w (n+1) c 34:=⟨_,rfl⟩;obtain⟨ZA,hZA⟩:∃ZA,ZA=(Builtin.zeroCells (Value.agg Tryz.zeroCells34).cells (n+1-i)).toList:=⟨_,rfl⟩;obtain⟨ZB,hZB⟩:∃ZB,ZB=(Builtin.zeroCells (Value.agg Tryz.zeroCells34).cells (G-(n+1))).toList:=⟨_,rfl⟩;have hZl:ZA.length=(n+1-i)*68:=by rw[hZA];exact vm _
 have hrz:∀ty,(Builtin.append_ #[115,3] ty #[.slice (some ⟨b,0,none⟩) i c,.int .i64 ((n:Int)+1-(i:Int))]).run Tryz.prog w =
  .ok (.slice (some ⟨w.heap.size,0,none⟩) (n+1) G) (w.drew.alloc (.cells (cs.take (i*68)++(ZA++ZB)).toArray 34)):=fun ty=>by
  have h:=Lib.run_append_grow_zeros w 115 3 ty 34 i0 _ .i64 .i64 Tryz.underlying115 Tryz.underlying3 hi0 hz0 (some ⟨b,0,none⟩) i c (cs.take (i*68)) hold (n+1-i) a_ a_ a_ a_ (by rw[hz2];omega) (by rw[hz2,hik];exact growslice_fits hroom a_);rw[hik]at h;rw[hkk,h,hZA,hZB,hG];congr 3;apply dX;simp
 obtain⟨ROW,hROW⟩:∃ROW:List Value,ROW=cs.take (i*68)++(ZA++ZB):=⟨_,rfl⟩;have hRl:(n+1)*68<=ROW.length:=by
  rw[hROW];simp only[aE,bH];omega
 obtain⟨R1,hR1⟩:∃R1:List Value,R1=cs.take (i*68)++vs++(ZA++ZB).drop 68:=⟨_,rfl⟩;obtain⟨R2,hR2⟩:∃R2:List Value,R2=cs.take (i*68)++vs++cs.drop (i*68)++ZB:=⟨_,rfl⟩;have hR1l:(n+1)*68<=R1.length:=by
  rw[hR1];simp only[aE,bH,aU];omega
 have hGn:n+1<=G:=by rw[hG];exact grownCap_ge w _ _ _
 have hG63:G<=9223372036854775807:=by
  have:=grownCap_le_maxLen w (n+1) c 34 (by unfold maxLen;omega);rw[<-hG]at this;unfold maxLen at this;omega
 have hGi:¬(G=i):=a_
 have hGim:¬(G=i+1):=a_
 have hci:¬(c=i):=a_
 have hbN:b≠w.heap.size:=a_
 have hvN:vb≠w.heap.size:=a_
 have hdl:(cs.drop (i*68)).length=(n-i)*68:=by rw[aU,hcl];omega
 have hcpA:∀(W:World),W.heap=(w.alloc (.cells ROW.toArray 34)).heap->∀ty dc,(Builtin.copy_ #[115,115] ty #[.slice (some ⟨w.heap.size,i*68,none⟩) (n+1-i) dc,.slice (some ⟨vb,voff,none⟩) 1 vc]).run Tryz.prog W=.ok (goInt 1) (W.setRow w.heap.size R1.toArray):=fun W hW ty dc=>by
  have hn:W.heap[w.heap.size]? = some (.cells ROW.toArray 34 (0,0)):=by rw[hW];exact heap_alloc_new w _
  have hv1:W.heap[vb]? = some (.cells va tv (0,0)):=by rw[hW];rw[heap_alloc_old w _ hvw];exact hv
  have:=vk (P:=Tryz.prog) W 115 115 ty 34 w.heap.size (i*68) (n+1-i) dc ⟨vb,voff,none⟩ 1 vc ROW.toArray 34 vs 68 Tryz.underlying115 vl hn (by rw[hvl];simp only[gI];split<;>omega)
   (fun j v hj=>by rw[eQ];simp only[World.cell?,hv1];exact hvs j v hj) (by rw[hvl,cp];omega) h1v
  rw[this,show Nat.min 1 (n+1-i)=1 by simp only[gI];split<;>omega,dY,hROW,Bcr hi hcl hvl,hR1];rfl
 have hcpB:∀(W:World),(W.heap[w.heap.size]? = some (.cells R1.toArray 34 (0,0))/\W.heap[b]? = w.heap[b]?)->∀ty dc sc,(Builtin.copy_ #[115,115] ty #[.slice (some ⟨w.heap.size,(i+1)*68,none⟩) (n-i) dc,.slice (some ⟨b,i*68,none⟩) (n-i) sc]).run Tryz.prog W=.ok (goInt ((n-i:Nat):Int)) (W.setRow w.heap.size R2.toArray):=fun W hW ty dc sc=>by
  have:=vk (P:=Tryz.prog) W 115 115 ty 34 w.heap.size ((i+1)*68) (n-i) dc ⟨b,i*68,none⟩ (n-i) sc R1.toArray 34 (cs.drop (i*68)) 68 Tryz.underlying115 vl hW.1 (by rw[hdl];simp only[gI];split<;>omega)
   (fun j v hj=>by
    rw[eQ];have:=hcs (i*68+j) v (by rwa [cq]at hj);simp only[World.cell?]at this⊢;rw[hW.2];exact this) (by rw[hdl,cp];omega) (fun v hv=>h1c v (aG hv))
  rw[this,show Nat.min (n-i) (n-i)=n-i by simp,dY,hR1,Bdl hi hcl hvl,hR2];congr 5;rw[fD a_,fD (by rw[aU];omega),cK,dG a_];rfl
 have hw1:IntKind.i64.wrap ((i:Int)+1)=(i:Int)+1:=by rw[IntKind.wrap_i64];omega
 have hw2:IntKind.i64.wrap ((n:Int)+1)=(n:Int)+1:=by rw[IntKind.wrap_i64];omega
 have hb1:(0:Int)<=(i:Int)+1:=a_
 have hin:i<=n:=a_
 have htn:((i:Int)+1).toNat=i+1:=a_
 have hb3:(i:Int)<=(n:Int):=a_
 have mixed:Tryz.prog.follows .mixedOrders=true:=by kernel_rfl
 rw[<-hG,<-hZB]at *;rw[<-hROW]at hrz;rw[<-hR2];clear hkk hik hold hZA hZB hROW hR1 hR2 hG;have hcpA':=hcpA (w.alloc (.cells ROW.toArray 34)).drew rfl;have hcpB':=hcpB ((w.alloc (.cells ROW.toArray 34)).drew.setRow w.heap.size R1.toArray).drew ⟨gN (w.alloc (.cells ROW.toArray 34)).drew w.heap.size ROW.toArray R1.toArray 34 _ (heap_alloc_new w _),(gF (w.alloc (.cells ROW.toArray 34)).drew w.heap.size b R1.toArray hbN).trans (heap_alloc_old w _ hbw)⟩
 go_enter Tryz.func89,Tryz.ntmps89
 go_wp2_with (first
  | (at_builtin;refine Lib.wpList_append_run _ rfl _ _ _ _ rfl _ _ rfl rfl _ _ (hrz _) ?_)
  | (simp only[hcpA']))
 go_region_law_o (refine step_copy_runI rfl _ _ 115 115 rfl _ _ (by simp[Act.eval,Act.put]) (by simp[Act.eval,Act.put]) (hcpB' _ _ _) ?_)
 go_wp2
 go_ret
 exact⟨rfl,_,_,rfl⟩
end
section
open Go.Proofs Go.RowKit Go.Lib Go.Shelf
set_option maxRecDepth 100000
structure R'(w w':World)(g:Nat)(arr:Array Value)(t:TypeId):Prop where
 row:w'.heap[g]? = some (.cells arr t (0,0))
 rest:∀k,k<w.heap.size->k≠g->w'.heap[k]? = w.heap[k]?
 os:w'.os=w.os
 tape:w'.tape=w.tape
 output:w'.output=w.output
theorem A6e(w:World)(b:Nat):∀(vs:List Value) (o:Nat) (cur:List Value) (t:TypeId) ,w.heap[b]? = some (.cells cur.toArray t (0,0))->o+vs.length<=cur.length->w.setCells b o vs=w.setRow b (cur.take o++vs++cur.drop (o+vs.length)).toArray:=by
 intro vs;induction vs generalizing w with
 | nil=>intro o cur t h _;rw[cW,fL,dI,List.take_append_drop];exact(setRow_self w b _ t _ h).symm
 | cons v r a=>
  intro o cur t h d;rw[bP]at d;have e:w.setCell ⟨b,o,none⟩ v=w.setRow b (cur.toArray.setIfInBounds o v):=setCell_eq_setRow w b o cur.toArray t _ v h;have e2:cur.toArray.setIfInBounds o v=(cur.set o v).toArray:=by simp
  rw[World.setCells,e,e2,a (w.setRow b (cur.set o v).toArray) (o+1) (cur.set o v) t (gN w b cur.toArray _ t _ h) (by rw[bY];omega),Go.setRow_setRow];congr 2;rw[bP,show o+(r.length+1)=o+1+r.length from a_,List.drop_set_of_lt a_];congr 1;rw[bV (by rw[bY];omega),List.getElem_set_self,List.take_set_of_le a_,bQ];rfl
theorem R_ {w w0:World}{b:Nat}{arr:Array Value}{t:TypeId}(a:w0.heap=w.heap)(d:w0.os=w.os)(e:w0.tape=w.tape)(hu:w0.output=w.output)(f:w.heap[b]? = some (.cells cur t (0,0))):R' w (w0.setRow b arr) b arr t:=
 ⟨gN w0 b cur arr t _ (by rw[a];exact f),fun k _ g=>(gF w0 b k arr g).trans (by rw[a]),d,e,hu⟩
theorem yI(w:World)(o:Obj):(w.alloc o).heap.size=w.heap.size+1:=by
 show(w.heap.push o).size=_;rw[Array.size_push]
set_option maxHeartbeats 1000000 in
theorem SA(base:Option Addr)(b n c i B d F:Nat)(cs more vs:List Value)(C:Array Value)(G:TypeId)(w:World)(V:i<=n)(H:n<=c)(f:n<=1000)(O:B≠b)
 (m:cs.length=n*68) (u:more.length=(c-n)*68) (o:vs.length=68) (D:(n=0/\c=0)\/(base=some ⟨b,0,none⟩/\w.heap[b]? = some (.cells (cs++more).toArray 34 (0,0)))) (J:w.heap[B]? = some (.cells C G (0,0)))
 (p:∀j v,vs[j]? = some v->C[d+j]? = some v) (K:∀v∈cs,v.oneCell'=true) (q:∀v∈vs,v.oneCell'=true) :
 Calls Tryz.prog 89 #[.slice base n c,.int .i64 i,.slice (some ⟨B,d,none⟩) 1 F] w fun e w'=>
  ∃g P t,e=.returned (.slice (some ⟨g,0,none⟩) (n+1) P)/\n+1<=P/\t.length=(P-(n+1))*68/\((g=w.heap.size/\w'.heap.size=w.heap.size+1)\/(g=b/\base=some ⟨b,0,none⟩/\w'.heap.size=w.heap.size))/\R' w w' g (cs.take (i*68)++vs++cs.drop (i*68)++t).toArray 34:=by
 have cap:n+1<=grownCap w (n+1) c 34/\grownCap w (n+1) c 34<=9223372036854775807:=by
  refine⟨grownCap_ge w _ _ _,?_⟩;have:=grownCap_le_maxLen w (n+1) c 34 (by unfold maxLen;omega);unfold maxLen at this;omega
 have full:cs.take (n*68)++vs++cs.drop (n*68)=cs++vs:=by
  rw[bK a_,dG a_,cW]
 rcases D with⟨rfl,rfl⟩|⟨rfl,E⟩
 ·obtain rfl:i=0:=a_
  refine(RZ base 0 0 B d F cs vs C G w a_ a_ a_ m o (fun _=>rfl) (fun _ _ j v hj=>by rw[bh.1 (by omega:cs.length=0)]at hj;cases hj) J p q).mono ?_;rintro e w' ⟨rfl,rfl⟩;refine⟨_,_,(Builtin.zeroCells (Value.agg Tryz.zeroCells34).cells (grownCap w (0+1) 0 34-(0+1))).toList,rfl,cap.1,vm _,.inl ⟨rfl,yI w.drew _⟩,?_,fun k L _=>heap_alloc_old w.drew _ L,rfl,rfl,rfl⟩;rw[full];have:=heap_alloc_new w.drew (.cells ((cs++vs).toArray++Builtin.zeroCells (Value.agg Tryz.zeroCells34).cells (grownCap w (0+1) 0 34-(0+1))) 34);rw[show(cs++vs++(Builtin.zeroCells (Value.agg Tryz.zeroCells34).cells (grownCap w (0+1) 0 34-(0+1))).toList).toArray=(cs++vs).toArray++Builtin.zeroCells (Value.agg Tryz.zeroCells34).cells (grownCap w (0+1) 0 34-(0+1)) by apply dX;simp];exact this
 ·have Q:b<w.heap.size:=(br.1 E).1
  have cell:∀j v,cs[j]? = some v->w.cell? ⟨b,j,none⟩=some v:=fun j v h=>by
   simp only[World.cell?,E];rw[bX,cI (bA.1 h).1];exact h
  rcases dJ i n with M|U
  ·rcases dJ c (n+1)with x|x
   ·refine(Bk9 b n c i B d F cs vs C G w M H x f m o Q cell J p K q).mono ?_
    rintro e w' ⟨rfl,A,R1,rfl⟩;refine⟨_,_,(Builtin.zeroCells (Value.agg Tryz.zeroCells34).cells (grownCap w (n+1) c 34-(n+1))).toList,rfl,cap.1,vm _,.inl ⟨rfl,?_⟩,?_,fun k L S=>?_,rfl,rfl,rfl⟩
    ·rw[size_setRow];show((w.alloc (.cells A 34)).drew.setRow w.heap.size R1).heap.size=_;rw[size_setRow];exact yI w _
    ·exact gN _ w.heap.size R1 _ 34 _ (gN (w.alloc (.cells A 34)).drew w.heap.size A R1 34 _ (heap_alloc_new w _))
    ·exact(gF _ w.heap.size k _ S).trans ((gF (w.alloc (.cells A 34)).drew w.heap.size k R1 S).trans (heap_alloc_old w _ L))
   ·refine(Biq b n c i B d F cs more vs C 34 G w M x f O m u o E J p K q).mono ?_
    rintro e w' ⟨rfl,rfl⟩;exact⟨b,c,more.drop 68,rfl,x,by rw[aU,u];omega,.inr ⟨rfl,rfl,size_setRow ..⟩,R_ rfl rfl rfl rfl E⟩
  ·obtain rfl:i=n:=a_
   rcases dJ c (i+1)with x|x
   ·refine(RZ (some ⟨b,0,none⟩) i c B d F cs vs C G w H x f m o (fun y=>by cases y) (fun a y j v hj=>by cases y;rw[eQ,bI];exact cell j v hj) J p q).mono ?_
    rintro e w' ⟨rfl,rfl⟩;refine⟨_,_,(Builtin.zeroCells (Value.agg Tryz.zeroCells34).cells (grownCap w (i+1) c 34-(i+1))).toList,rfl,cap.1,vm _,.inl ⟨rfl,yI w.drew _⟩,?_,fun k L _=>heap_alloc_old w.drew _ L,rfl,rfl,rfl⟩;rw[full];have:=heap_alloc_new w.drew (.cells ((cs++vs).toArray++Builtin.zeroCells (Value.agg Tryz.zeroCells34).cells (grownCap w (i+1) c 34-(i+1))) 34);rw[show(cs++vs++(Builtin.zeroCells (Value.agg Tryz.zeroCells34).cells (grownCap w (i+1) c 34-(i+1))).toList).toArray=(cs++vs).toArray++Builtin.zeroCells (Value.agg Tryz.zeroCells34).cells (grownCap w (i+1) c 34-(i+1)) by apply dX;simp];exact this
   ·refine(A6d b i c B d F cs more vs C 34 G w x f m u o E J p q).mono ?_
    rintro e w' ⟨rfl,rfl⟩;rw[A6e w b vs (i*68) (cs++more) 34 E (by rw[aE];omega)];refine⟨b,c,more.drop 68,rfl,x,by rw[aU,u];omega,.inr ⟨rfl,rfl,size_setRow ..⟩,?_⟩;rw[full];have e:(cs++more).take (i*68)++vs++(cs++more).drop (i*68+vs.length)=cs++vs++more.drop 68:=by
     have T:=dQ (l₁:=cs) (l₂:=more);have h2:=dN (l₁:=cs) (l₂:=more);rw[m]at T h2;rw[T,<-cK,h2,o]
    rw[e];exact R_ rfl rfl rfl rfl E
end
noncomputable section
def qe(s:EV)(i:Int)(j:Nat)(h:Ab):R:=
 match h.get j with
 | some (.cells vs _)=>if vs.length=68/\0<=i then
  (match s with
  | .An=>if i=0 then some (.slice h.next 0 1 1 true,h.new (.vec vs 34 68))else none
  | .slice _ 0 0 0 false=>if i=0 then some (.slice h.next 0 1 1 true,h.new (.vec vs 34 68))else none
  | .slice q 0 n a true=>(match h.get q with
   | some (.vec l e z)=>if a=n/\e=34/\z=68/\l.length=n*68/\i<=n/\n<=1000 then some (.slice h.next 0 (n+1) (n+1) true,(h.del q).new (.vec (l.take (i.toNat*68)++vs++l.drop (i.toNat*68)) 34 68))else none
   | _=>none)
  | _=>none)else none
 | _=>none
def nG:FT:=fun _ _ _ args h=>match args with
 | [s,.int .i64 i,.slice j 0 1 _ _]=>qe s i j h
 | _=>none
theorem SB {w w':World}{r:Obj}(a:w'.heap[w.heap.size]? = some r)(h2:w'.heap.size=w.heap.size+1)(b:∀k,k<w.heap.size->k≠w.heap.size->w'.heap[k]? = w.heap[k]?):w'.heap=w.heap.push r:=by
 apply fI;intro k;rw[Array.getElem?_push];rcases Nat.lt_trichotomy k w.heap.size with y|y|y
 ·rw[aK a_];exact b k y a_
 ·rw[aN y,y];exact a
 ·rw[aK a_,fG a_,fG a_]
theorem SC {h:Ab}{j r:Nat}{op:Bool}{vs:List EV}(hj:h.get j=some (.cells vs te))(A:vs.length=68){s:EV}(B:∀f,∃base,Cl f s=.slice base 0 0):Good TP 89 [s,.int .i64 ((0:Nat):Int),.slice j 0 1 r op] h (.slice h.next 0 1 1 true) (h.new (.vec vs 34 68)):=by
 have C:∃fn,TP.funcs[89]? = some fn/\fn.body.isSome=true/\(fn.name == "runtime.NumGoroutine")=false:=⟨Tryz.f89,Tryz.func89,by kernel_rfl,by kernel_rfl⟩;refine⟨C,fun p f w u K _ cs=>?_,.new _ _⟩;obtain⟨base,d⟩:=B f;obtain⟨ro,L,rfl⟩:=K.obj j _ hj;obtain⟨_,o,q⟩:=u.get j _ hj;have D:∀v∈Bo f vs,v.oneCell'=true:=Yd f vs (by simpa using q);obtain⟨b,E,F⟩:∃b,f.b j≠b/\base≠some ⟨b,0,none⟩:=by
  cases base with
  | none=>exact⟨f.b j+1,a_,fun y=>by cases y⟩
  | some a=>exact⟨f.b j+a.block+1,a_,fun y=>by have:=congrArg (fun x:Option Addr=>(x.map (·.block)).getD 0) y;simp at this;omega⟩
 obtain⟨e,w',fr,⟨g,t,m,rfl,M,G,O,P⟩,hs,H,Q⟩:=SA base b 0 0 0 (f.b j) 0 (if op=true then r+f.sp j else r) [] [] (Bo f vs) (Bo f vs).toArray te w (aD _) (aD _) a_ E rfl rfl (by rw[Cw];exact A) (.inl ⟨rfl,rfl⟩) L (fun k v S=>by rw[bI,bX];exact S) (fun v T=>by cases T) D cs;rcases O with⟨rfl,J⟩|⟨_,y,_⟩
 ·refine⟨fr,f.set h.next w.heap.size (t-1),w',?_,H,?_,Move.new u K (t-1) (SB P.row J P.rest) ?_ P.tape P.os P.output,Wf.new u ⟨S9 o,q⟩,.inr ⟨aD _,by rw[Ab.Dh];omega⟩⟩
  ·have:(Bo f [s,.int .i64 ((0:Nat):Int),.slice j 0 1 r op]).toArray = #[.slice base 0 0,.int .i64 ((0:Nat):Int),.slice (some ⟨f.b j,0,none⟩) 1 (if op=true then r+f.sp j else r)]:=by
    simp only[Bo,d];rfl
   rw[this];exact hs
  ·simp only[Cl,Loc.Xp,Loc.nC,bM]
   rw[show 1+(t-1)=t from a_];exact Q
  ·refine⟨m,?_,by rw[G,Loc.nC]⟩
   rw[<-F9 (f.Nq w.heap.size (t-1) u.fresh) vs o];simp
 ·exact absurd y F
theorem Bp8:km TP 89 nG:=by
 intro call round K _ _ args h v h' e;have O:∃fn,TP.funcs[89]? = some fn/\fn.body.isSome=true/\(fn.name == "runtime.NumGoroutine")=false:=⟨Tryz.f89,Tryz.func89,by kernel_rfl,by kernel_rfl⟩;unfold nG at e;split at e
 next s i j r op=>
  unfold qe at e;split at e
  next vs te hj=>
   split at e
   next Q=>
    obtain⟨x,S⟩:=Q;obtain⟨i,rfl⟩:=bL S;split at e
    ·
     split at e
     next hi=>
      cases e;obtain rfl:i=0:=a_
      exact SC hj x fun f=>⟨none,rfl⟩
     ·cases e
    ·
     split at e
     next hi=>
      cases e;obtain rfl:i=0:=a_
      exact SC hj x fun f=>⟨_,rfl⟩
     ·cases e
    ·
     rename_i q n m;split at e
     next l ab z F=>
      split at e
      next Q=>
       obtain⟨rfl,rfl,rfl,T,ad,hn⟩:=Q;cases e;refine⟨O,fun p f w A G _ cs=>?_,(AWf.del _ _).trans (.new _ _)⟩;obtain⟨ro,a1,rfl⟩:=G.obj j _ hj;obtain⟨rq,b1,more,rfl,hm⟩:=G.obj q _ F;obtain⟨_,H,B⟩:=A.get j _ hj;obtain⟨_,C,o⟩:=A.get q _ F;have U:f.b j≠f.b q:=fun y=>by
        have:=G.inj j q _ _ hj F y;subst this;rw[hj]at F;cases F
       have V:∀v∈Bo f vs,v.oneCell'=true:=Yd f vs (by simpa using B);have W:∀v∈Bo f l,v.oneCell'=true:=Yd f l (by simpa using o);have D:EV.T4 p (l.take (i*68)++vs++l.drop (i*68)):=by
        rw[Ie]at H C⊢;intro v d;rcases bO.1 d with d|d
        ·rcases bO.1 d with d|d
         ·exact C v (bS d)
         ·exact H v d
        ·exact C v (aG d)
       have J:(l.take (i*68)++vs++l.drop (i*68)).all EV.one=true:=by
        rw[dS]at B o⊢;intro v d;rcases bO.1 d with d|d
        ·rcases bO.1 d with d|d
         ·exact o v (bS d)
         ·exact B v d
        ·exact o v (aG d)
       have X:∀a:List Value,(Bo f l).take (i*68)++Bo f vs++(Bo f l).drop (i*68)++a=Bo f (l.take (i*68)++vs++l.drop (i*68))++a:=fun a=>by
        simp only[Pt,bZ,List.map_take,List.map_drop]
       ·obtain⟨e,w',fr,⟨g,t,a,rfl,ag,Y,hg,P⟩,hs,L,M⟩:=SA (some ⟨f.b q,0,none⟩) (f.b q) m (m+f.sp q) i (f.b j) 0 (if op=true then r+f.sp j else r) (Bo f l) more (Bo f vs) (Bo f vs).toArray te w a_ a_ hn U (by rw[Cw];exact T) (by rw[hm];congr 1;omega) (by rw[Cw];exact x) (.inr ⟨rfl,b1⟩) a1 (fun k v Z=>by rw[bI,bX];exact Z) W V cs
        have fin:∀g,fr.leaving TP w' (.returned (.slice (some ⟨g,0,none⟩) (m+1) t))->fr.leaving TP w' (.returned (Cl (f.set h.next g (t-(m+1))) (.slice h.next 0 (m+1) (m+1) true))):=fun g M=>by
         simp only[Cl,Loc.Xp,Loc.nC,bM];rw[show m+1+(t-(m+1))=t from a_];exact M
        have u:∀g,Te (f.set h.next g (t-(m+1))) h.next (.vec (l.take (i*68)++vs++l.drop (i*68)) 34 68) (.cells ((Bo f l).take (i*68)++Bo f vs++(Bo f l).drop (i*68)++a).toArray 34 (0,0)):=fun g=>by
         refine⟨a,?_,by rw[Y,Loc.nC]⟩;rw[<-F9 (f.Nq _ _ A.fresh) _ D,X]
        rcases hg with⟨rfl,E⟩|⟨rfl,_,E⟩
        ·exact⟨fr,f.set h.next w.heap.size (t-(m+1)),w',hs,L,fin _ M,Move.Br9 A G q (t-(m+1)) (SB P.row E P.rest) (u _) P.tape P.os P.output,Wf.oN A q ⟨S9 D,J⟩,.inr ⟨aD _,by rw[Ab.Dh,Ab.q_];omega⟩⟩
        ·exact⟨fr,f.set h.next (f.b q) (t-(m+1)),w',hs,L,fin _ M,Move.oN A G F (t-(m+1)) P.row (u _) (fun k Z=>by
          rcases dJ k w.heap.size with y|y
          ·exact P.rest k y Z
          ·rw[fG a_,fG a_]) E P.tape P.os P.output,Wf.oN A q ⟨S9 D,J⟩,.inr ⟨aD _,by rw[Ab.Dh,Ab.q_];omega⟩⟩
      ·cases e
     ·cases e
    ·cases e
   ·cases e
  ·cases e
 ·cases e
end
end Go.Ev
