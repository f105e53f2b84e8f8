import Derived.Test.YtokpnommcenoaaaGreatProg
import Derived.Shelf.Spec.SlicesInsertGrow
import Derived.Test.YtokpnommcenoaaaGreatTab
import Derived.Test.YtokpnommcenoaaaGreatEvFive
set_option linter.unusedVariables false
set_option linter.unusedSimpArgs false
set_option linter.unusedSectionVars false
namespace Go.Ev
open Go.Proofs Go.RowKit Go.Lib Go.Shelf
set_option maxRecDepth 100000
theorem I9 {P:Program}(w:World)(dT sT ty elem:TypeId)(g o dLen dCap:Nat)(a:Addr)(sLen sCap:Nat)(cur:Array Value)(t:TypeId)(cs:List Value)(sz:Nat)
 (hu:P.underlying dT=some (.slice elem)) (hs:(P.info? elem).map (·.size)=some sz) (hg:w.heap[g]? = some (.cells cur t (0,0))) (hn:cs.length=Nat.min sLen dLen*sz)
 (hsrc:∀ j v,cs[j]? = some v->w.cell? (a.add j)=some v) (hfit:o+cs.length<=cur.size) (h1:∀ v ∈ cs,v.oneCell'=true) :
 (Builtin.copy_ #[dT,sT] ty #[.slice (some ⟨g,o,none⟩) dLen dCap,.slice (some a) sLen sCap]).run P w =
  .ok (goInt (Nat.min sLen dLen)) (w.setRow g (cur.toList.take o++cs++cur.toList.drop (o+cs.length)).toArray):=by
 have hl:=run_loadCells_list (P:=P) w a cs hsrc
 have hst:=run_storeCells_at P g o t cs 0 cur w hg (by simpa using hfit) h1
 cases hq:P.info? elem with
 | none=>simp[hq]at hs
 | some i=>
  have hi:i.size=sz:=by simpa [hq] using hs
  simp[Builtin.copy_,run_underlying hu,Builtin.lenOf,Builtin.firstCells,sizeOf,typeInfo,hq,hi,<-hn,hl,hst]
theorem Aau:(Tryz.prog.info? 32).map (·.size)=some 68:=by kernel_rfl
theorem Aec:(Tryz.prog.info? 32).map (fun i=>(i.zero,i.size,i.bytes))=some (some (.agg Tryz.zeroCells32),68,96):=by kernel_rfl
theorem Ap5 {w:World}{b vb voff vc lb cb o:Nat}{va:Array Value}{cur:Array Value}{te tv:TypeId}(hvb:vb ≠ b)(hg:w.heap[b]? = some (.cells cur te (0,0)))(hc:cur.size ≠ 0)(hv:w.heap[vb]? = some (.cells va tv (0,0))):
 (callFunc 177 #[.slice (some ⟨vb,voff,none⟩) 1 vc,.slice (some ⟨b,o,none⟩) lb cb]).run Tryz.prog w=.ok (.value (.bool false)) w:=by
 rw[run_callFunc_extern Tryz.func177 (by kernel_rfl) (by kernel_rfl) (by kernel_rfl) (e:=Extern.SlicesOverlaps.overlaps #[75,75] #[4]) (by kernel_rfl),
  Lib.run_overlaps_apart w 75 4 32 Tryz.underlying75 68 Tryz.sizeOf32 ⟨vb,voff,none⟩ ⟨b,o,none⟩ 1 vc lb cb hvb tv te va.size cur.size (by simp[World.shape?,hv]) (by simp[World.shape?,hg]) hc (by simp[World.frozen?,hv]) (by simp[World.frozen?,hv])]
 rfl
end Go.Ev

namespace Go.Ev
open Go.Proofs Go.RowKit Go.Lib Go.Shelf
set_option maxRecDepth 100000
theorem Ae4 {cs more vs:List Value}{n i:Nat}(hi:i<n)(hcl:cs.length=n*68)(hml:68<=more.length)(hvl:vs.length=68):
 ((((cs++more).take ((i+1)*68)++cs.drop (i*68)++(cs++more).drop ((i+1)*68+(cs.drop (i*68)).length)).take (i*68))++vs++(((cs++more).take ((i+1)*68)++cs.drop (i*68)++(cs++more).drop ((i+1)*68+(cs.drop (i*68)).length)).drop (i*68+vs.length))) =
   cs.take (i*68)++vs++cs.drop (i*68)++more.drop 68:=by
 have l1:((cs++more).take ((i+1)*68)).length=(i+1)*68:=by rw[List.length_take,List.length_append];omega
 have e1:(cs++more).drop ((i+1)*68+(cs.drop (i*68)).length)=more.drop 68:=by
  rw[List.length_drop,hcl,show (i+1)*68+(n*68-i*68)=cs.length+68 by omega,<-List.drop_drop,List.drop_left]
 rw[e1,hvl,show i*68+68=(i+1)*68 by omega]
 have e2:((cs++more).take ((i+1)*68)++cs.drop (i*68)++more.drop 68).take (i*68)=cs.take (i*68):=by
  rw[List.append_assoc,List.take_append_of_le_length (by omega),List.take_take,show min (i*68) ((i+1)*68)=i*68 by omega,List.take_append_of_le_length (by omega)]
 have e3:((cs++more).take ((i+1)*68)++cs.drop (i*68)++more.drop 68).drop ((i+1)*68)=cs.drop (i*68)++more.drop 68:=by
  have:=List.drop_left (l₁:=(cs++more).take ((i+1)*68)) (l₂:=cs.drop (i*68)++more.drop 68)
  rw[l1]at this
  rw[List.append_assoc,this]
 rw[e2,e3]
 simp only[List.append_assoc]
set_option maxHeartbeats 4000000 in
theorem Ahd(b n c i vb voff vc:Nat)(cs more vs:List Value)(va:Array Value)(te tv:TypeId)(w:World)(hi:i<n)(hroom:n+1<=c)(hbig:n<=1000)(hvb:vb ≠ b)
 (hcl:cs.length=n*68) (hml:more.length=(c-n)*68) (hvl:vs.length=68) (hg:w.heap[b]? = some (.cells (cs++more).toArray te (0,0))) (hv:w.heap[vb]? = some (.cells va tv (0,0)))
 (hvs:∀ j v,vs[j]? = some v->va[voff+j]? = some v) (h1c:∀ v ∈ cs,v.oneCell'=true) (h1v:∀ v ∈ vs,v.oneCell'=true) :
 Calls Tryz.prog 105 #[.slice (some ⟨b,0,none⟩) n c,.int .i64 i,.slice (some ⟨vb,voff,none⟩) 1 vc] w fun e w'=>
  e=.returned (.slice (some ⟨b,0,none⟩) (n+1) c)/\w'=w.drew.setRow b (cs.take (i*68)++vs++cs.drop (i*68)++more.drop 68).toArray:=by
 have hz2:¬ ((i:Int)=(n:Int)):=by omega
 have hml':68<=more.length:=by rw[hml];omega
 have hsz:((cs++more).toArray).size ≠ 0:=by simp only[List.size_toArray,List.length_append];omega
 have hov:∀ o lb cb,(callFunc 177 #[.slice (some ⟨vb,voff,none⟩) 1 vc,.slice (some ⟨b,o,none⟩) lb cb]).run Tryz.prog w=.ok (.value (.bool false)) w:=fun o lb cb=>Ap5 hvb hg hsz hv
 have hdl:(cs.drop (i*68)).length=(n-i)*68:=by rw[List.length_drop,hcl];omega
 have cell:∀ j v,cs[j]? = some v->w.cell? ⟨b,j,none⟩=some v:=fun j v h=>by
  simp only[World.cell?,hg]
  rw[List.getElem?_toArray,List.getElem?_append_left (List.getElem?_eq_some_iff.1 h).1];exact h
 have hw1:IntKind.i64.wrap ((i:Int)+1)=(i:Int)+1:=by rw[IntKind.wrap_i64];omega
 have hw2:IntKind.i64.wrap ((n:Int)+1)=(n:Int)+1:=by rw[IntKind.wrap_i64];omega
 have hb1:(0:Int)<=(i:Int)+1:=by omega
 have hin:i<=n:=by omega
 have htn:((i:Int)+1).toNat=i+1:=by omega
 have hb2:¬ (c=i+1):=by omega
 have hb3:(i:Int)<=(n:Int)+1:=by omega
 have hb4:¬ (c=i):=by omega
 obtain⟨R1,hR1⟩:∃ R1:List Value,R1=(cs++more).take ((i+1)*68)++cs.drop (i*68)++(cs++more).drop ((i+1)*68+(cs.drop (i*68)).length):=⟨_,rfl⟩
 have hR1l:R1.length=(cs++more).length:=by
  rw[hR1];simp only[List.length_append,List.length_take,List.length_drop];omega
 have hcp1:∀ ty dc sc,(Builtin.copy_ #[75,75] ty #[.slice (some ⟨b,(i+1)*68,none⟩) (n-i) dc,.slice (some ⟨b,i*68,none⟩) (n+1-i) sc]).run Tryz.prog w.drew=.ok (goInt ((n-i:Nat):Int)) (w.drew.setRow b R1.toArray):=fun ty dc sc=>by
  have:=I9 (P:=Tryz.prog) w.drew 75 75 ty 32 b ((i+1)*68) (n-i) dc ⟨b,i*68,none⟩ (n+1-i) sc (cs++more).toArray te (cs.drop (i*68)) 68 Tryz.underlying75 Aau hg (by rw[hdl];simp only[Nat.min_def];split <;> omega)
   (fun j v hj=>by rw[Addr.add_lit];exact cell (i*68+j) v (by rwa [List.getElem?_drop]at hj)) (by rw[hdl];simp;omega) (fun v hv=>h1c v (List.mem_of_mem_drop hv))
  rw[this,show Nat.min (n+1-i) (n-i)=n-i by simp only[Nat.min_def];split <;> omega,List.toList_toArray,hR1]
 have hh1:(w.drew.setRow b R1.toArray).heap[b]? = some (.cells R1.toArray te (0,0)):=setRow_heap w.drew b (cs++more).toArray R1.toArray te _ hg
 have hcp2:∀ (W:World),W.heap=(w.drew.setRow b R1.toArray).heap->∀ ty dc,(Builtin.copy_ #[75,75] ty #[.slice (some ⟨b,i*68,none⟩) (n+1-i) dc,.slice (some ⟨vb,voff,none⟩) 1 vc]).run Tryz.prog W=.ok (goInt 1) (W.setRow b (cs.take (i*68)++vs++cs.drop (i*68)++more.drop 68).toArray):=fun W hW ty dc=>by
  have hv1:W.heap[vb]? = some (.cells va tv (0,0)):=by
   rw[hW,Go.setRow_other w.drew b vb _ hvb];exact hv
  have:=I9 (P:=Tryz.prog) W 75 75 ty 32 b (i*68) (n+1-i) dc ⟨vb,voff,none⟩ 1 vc R1.toArray te vs 68 Tryz.underlying75 Aau (by rw[hW];exact hh1) (by rw[hvl];simp only[Nat.min_def];split <;> omega)
   (fun j v hj=>by rw[Addr.add_lit];simp only[World.cell?,hv1];exact hvs j v hj) (by rw[hvl];simp[hR1l];omega) h1v
  rw[this,show Nat.min 1 (n+1-i)=1 by simp only[Nat.min_def];split <;> omega]
  rw[hR1,List.toList_toArray,Ae4 hi hcl hml' hvl];rfl
 have mixed:Tryz.prog.follows .mixedOrders=true:=by kernel_rfl
 go_enter Tryz.func105,Tryz.ntmps105
 go_wp2_with (simp only[hov])
 go_region_law_o (refine step_copy_runI rfl _ _ 75 75 rfl _ _ (by simp[Act.eval,Act.put]) (by simp[Act.eval,Act.put]) (hcp1 _ _ _) ?_)
 go_wp2_with (at_builtin;refine wpList_copy_runI _ rfl _ _ 75 75 rfl _ _ rfl rfl (hcp2 _ rfl _ _) ?_)
 go_ret
 exact⟨rfl,by rw[Go.setRow_setRow];simp only[List.append_assoc]⟩
theorem Aas(b n c vb voff vc:Nat)(cs more vs:List Value)(va:Array Value)(te tv:TypeId)(w:World)(hroom:n+1<=c)(hbig:n<=1000)
 (hcl:cs.length=n*68) (hml:more.length=(c-n)*68) (hvl:vs.length=68) (hg:w.heap[b]? = some (.cells (cs++more).toArray te (0,0))) (hv:w.heap[vb]? = some (.cells va tv (0,0)))
 (hvs:∀ j v,vs[j]? = some v->va[voff+j]? = some v) (h1v:∀ v ∈ vs,v.oneCell'=true) :
 Calls Tryz.prog 105 #[.slice (some ⟨b,0,none⟩) n c,.int .i64 n,.slice (some ⟨vb,voff,none⟩) 1 vc] w fun e w'=>
  e=.returned (.slice (some ⟨b,0,none⟩) (n+1) c)/\w'=w.setCells b (n*68) vs:=by
 obtain⟨i0,hi0,hzz⟩:=Option.map_eq_some_iff.1 Aec
 simp only[Prod.mk.injEq]at hzz
 obtain⟨hz0,hz1,hz2⟩:=hzz
 have hl:(n*68)+68<=((cs++more).toArray).size:=by simp only[List.size_toArray,List.length_append];omega
 have hsrc:Src Tryz.prog i0.size 75 (.slice (some ⟨vb,voff,none⟩) 1 vc) 1 vs w:=by
  rw[hz1]
  exact Src.ofSlice w Tryz.underlying75 ⟨vb,voff,none⟩ 1 vc vs (by omega) (fun j u hj=>by rw[Addr.add_lit];simp only[World.cell?,hv];exact hvs j u hj) h1v
 have hrun:∀ ty,(Builtin.append_ #[75,75] ty #[.slice (some ⟨b,0,none⟩) n c,.slice (some ⟨vb,voff,none⟩) 1 vc]).run Tryz.prog w=.ok (.slice (some ⟨b,0,none⟩) (n+1) c) (w.setCells b (n*68) vs):=fun ty=>by
  have:=run_append_room_src w 75 75 ty 32 i0 Tryz.underlying75 hi0 b 0 n c _ 1 vs hsrc hroom
   (fun j hj=>by rw[hz1];simp only[World.cell?,hg];rw[Array.getElem?_eq_getElem (by omega)];rfl) (fun j hj=>by simp[World.frozen?,hg])
  rw[this,hz1,Nat.zero_add]
 go_enter Tryz.func105,Tryz.ntmps105
 go_wp2_with (at_builtin;refine Lib.wpList_append_run _ rfl _ _ _ _ rfl _ _ rfl rfl _ _ (hrun _) ?_)
 go_ret
 exact⟨rfl,rfl⟩
theorem S5(base:Option Addr)(n c vb voff vc:Nat)(cs vs:List Value)(va:Array Value)(tv:TypeId)(w:World)(hnc:n<=c)(hroom:c<n+1)(hbig:n<=1000)
 (hcl:cs.length=n*68) (hvl:vs.length=68) (hnil:base=none->n=0) (hcs:∀ a,base=some a->∀ j v,cs[j]? = some v->w.cell? (a.add j)=some v)
 (hv:w.heap[vb]? = some (.cells va tv (0,0))) (hvs:∀ j v,vs[j]? = some v->va[voff+j]? = some v) (h1v:∀ v ∈ vs,v.oneCell'=true) :
 Calls Tryz.prog 105 #[.slice base n c,.int .i64 n,.slice (some ⟨vb,voff,none⟩) 1 vc] w fun e w'=>
  e=.returned (.slice (some ⟨w.heap.size,0,none⟩) (n+1) (grownCap w (n+1) c 32)) /\
  w'=w.drew.alloc (.cells ((cs++vs).toArray++Builtin.zeroCells (Value.agg Tryz.zeroCells32).cells (grownCap w (n+1) c 32-(n+1))) 32):=by
 obtain⟨i0,hi0,hzz⟩:=Option.map_eq_some_iff.1 Aec
 simp only[Prod.mk.injEq]at hzz
 obtain⟨hz0,hz1,hz2⟩:=hzz
 have hsrc:Src Tryz.prog i0.size 75 (.slice (some ⟨vb,voff,none⟩) 1 vc) 1 vs w:=by
  rw[hz1]
  exact Src.ofSlice w Tryz.underlying75 ⟨vb,voff,none⟩ 1 vc vs (by omega) (fun j u hj=>by rw[Addr.add_lit];simp only[World.cell?,hv];exact hvs j u hj) h1v
 have hold:(Builtin.firstCells i0.size n (.slice base n c)).run Tryz.prog w.drew=.ok cs.toArray w.drew:=by
  rw[hz1]
  cases base with
  | none=>
   have h0:=hnil rfl
   subst h0
   rw[List.length_eq_zero_iff.1 (by omega:cs.length=0)]
   exact run_firstCells_none w.drew 68 0 0 c
  | some a=>exact run_firstCells_some w.drew 68 n a n c cs (by omega) (fun j v hj=>hcs a rfl j v hj)
 have hrun:∀ ty,(Builtin.append_ #[75,75] ty #[.slice base n c,.slice (some ⟨vb,voff,none⟩) 1 vc]).run Tryz.prog w=_:=fun ty=>
  run_append_grow_src w 75 75 ty 32 i0 _ Tryz.underlying75 hi0 hz0 base n c cs hold _ 1 vs hsrc hroom (by omega) (by rw[hz2];exact growslice_fits hroom (by omega))
 go_enter Tryz.func105,Tryz.ntmps105
 cases base with
 | none=>
  have h0:=hnil rfl
  subst h0
  go_wp2_with (at_builtin;refine Lib.wpList_append_run _ rfl _ _ _ _ rfl _ _ rfl rfl _ _ (hrun _) ?_)
  go_ret
  exact⟨rfl,rfl⟩
 | some a=>
  obtain⟨ab,ao,asp⟩:=a
  go_wp2_with (at_builtin;refine Lib.wpList_append_run _ rfl _ _ _ _ rfl _ _ rfl rfl _ _ (hrun _) ?_)
  all_goals (go_ret;exact⟨rfl,rfl⟩)
end Go.Ev

namespace Go.Ev
open Go.Proofs Go.RowKit Go.Lib Go.Shelf
set_option maxRecDepth 100000
theorem Ae7 {cs vs Z:List Value}{n i:Nat}(hi:i<n)(hcl:cs.length=n*68)(hvl:vs.length=68):
 (cs.take (i*68)++Z).take (i*68)++vs++(cs.take (i*68)++Z).drop (i*68+vs.length)=cs.take (i*68)++vs++Z.drop 68:=by
 have l1:(cs.take (i*68)).length=i*68:=by rw[List.length_take];omega
 have e1:(cs.take (i*68)++Z).take (i*68)=cs.take (i*68):=by
  have:=List.take_left (l₁:=cs.take (i*68)) (l₂:=Z)
  rwa [l1]at this
 have e2:(cs.take (i*68)++Z).drop (i*68)=Z:=by
  have:=List.drop_left (l₁:=cs.take (i*68)) (l₂:=Z)
  rwa [l1]at this
 rw[e1,hvl,<-List.drop_drop,e2]
theorem Ae9 {cs vs Z:List Value}{n i:Nat}(hi:i<n)(hcl:cs.length=n*68)(hvl:vs.length=68):
 (cs.take (i*68)++vs++Z).take ((i+1)*68)++cs.drop (i*68)++(cs.take (i*68)++vs++Z).drop ((i+1)*68+(cs.drop (i*68)).length)=cs.take (i*68)++vs++cs.drop (i*68)++Z.drop ((n-i)*68):=by
 have l1:(cs.take (i*68)++vs).length=(i+1)*68:=by rw[List.length_append,List.length_take];omega
 have e1:(cs.take (i*68)++vs++Z).take ((i+1)*68)=cs.take (i*68)++vs:=by
  have:=List.take_left (l₁:=cs.take (i*68)++vs) (l₂:=Z)
  rwa [l1]at this
 have e2:(cs.take (i*68)++vs++Z).drop ((i+1)*68)=Z:=by
  have:=List.drop_left (l₁:=cs.take (i*68)++vs) (l₂:=Z)
  rwa [l1]at this
 rw[e1,<-List.drop_drop,e2,List.length_drop,hcl,show n*68-i*68=(n-i)*68 by omega]
theorem T3(k:Nat):(Builtin.zeroCells (Value.agg Tryz.zeroCells32).cells k).toList.length=k*68:=by
 have e:(Value.agg Tryz.zeroCells32).cells.size=68:=by kernel_rfl
 rw[Array.length_toList,size_zeroCells,e]
set_option maxHeartbeats 4000000 in
theorem Ajg(b n c i vb voff vc:Nat)(cs vs:List Value)(va:Array Value)(tv:TypeId)(w:World)(hi:i<n)(hnc:n<=c)(hroom:c<n+1)(hbig:n<=1000)
 (hcl:cs.length=n*68) (hvl:vs.length=68) (hbw:b<w.heap.size) (hcs:∀ (j:Nat) v,cs[j]? = some v->w.cell? ⟨b,j,none⟩=some v)
 (hv:w.heap[vb]? = some (.cells va tv (0,0))) (hvs:∀ j v,vs[j]? = some v->va[voff+j]? = some v) (h1c:∀ v ∈ cs,v.oneCell'=true) (h1v:∀ v ∈ vs,v.oneCell'=true) :
 Calls Tryz.prog 105 #[.slice (some ⟨b,0,none⟩) n c,.int .i64 i,.slice (some ⟨vb,voff,none⟩) 1 vc] w fun e w'=>
  e=.returned (.slice (some ⟨w.heap.size,0,none⟩) (n+1) (grownCap w (n+1) c 32))/\∃ ROW R1,
  w'=((w.alloc (.cells ROW 32)).drew.setRow w.heap.size R1).drew.setRow w.heap.size (cs.take (i*68)++vs++cs.drop (i*68)++(Builtin.zeroCells (Value.agg Tryz.zeroCells32).cells (grownCap w (n+1) c 32-(n+1))).toList).toArray:=by
 obtain⟨i0,hi0,hzz⟩:=Option.map_eq_some_iff.1 Aec
 simp only[Prod.mk.injEq]at hzz
 obtain⟨hz0,hz1,hz2⟩:=hzz
 have hz2':¬ ((i:Int)=(n:Int)):=by omega
 have hz3:(c:Int)<(n:Int)+1:=by omega
 have hvw:vb<w.heap.size:=(Array.getElem?_eq_some_iff.1 hv).1
 have hkk:(n:Int)+1-(i:Int)=((n+1-i:Nat):Int):=by omega
 have hik:i+(n+1-i)=n+1:=by omega
 have hold:(Builtin.firstCells i0.size i (.slice (some ⟨b,0,none⟩) i c)).run Tryz.prog w.drew=.ok (cs.take (i*68)).toArray w.drew:=by
  rw[hz1]
  exact run_firstCells_some w.drew 68 i ⟨b,0,none⟩ i c (cs.take (i*68)) (by rw[List.length_take];omega) (fun j v hj=>by
   rw[Addr.add_lit,Nat.zero_add]
   rw[List.getElem?_take]at hj
   split at hj
   ·exact hcs j v hj
   ·cases hj)
 obtain⟨G,hG⟩:∃ G,G=grownCap w (n+1) c 32:=⟨_,rfl⟩
 obtain⟨ZA,hZA⟩:∃ ZA,ZA=(Builtin.zeroCells (Value.agg Tryz.zeroCells32).cells (n+1-i)).toList:=⟨_,rfl⟩
 obtain⟨ZB,hZB⟩:∃ ZB,ZB=(Builtin.zeroCells (Value.agg Tryz.zeroCells32).cells (G-(n+1))).toList:=⟨_,rfl⟩
 have hZl:ZA.length=(n+1-i)*68:=by rw[hZA];exact T3 _
 have hrz:∀ ty,(Builtin.append_ #[75,3] ty #[.slice (some ⟨b,0,none⟩) i c,.int .i64 ((n:Int)+1-(i:Int))]).run Tryz.prog w =
  .ok (.slice (some ⟨w.heap.size,0,none⟩) (n+1) G) (w.drew.alloc (.cells (cs.take (i*68)++(ZA++ZB)).toArray 32)):=fun ty=>by
  have h:=Lib.run_append_grow_zeros w 75 3 ty 32 i0 _ .i64 .i64 Tryz.underlying75 Tryz.underlying3 hi0 hz0 (some ⟨b,0,none⟩) i c (cs.take (i*68)) hold (n+1-i) (by omega) (by omega) (by omega) (by omega) (by rw[hz2];omega) (by rw[hz2,hik];exact growslice_fits hroom (by omega))
  rw[hik]at h
  rw[hkk,h,hZA,hZB,hG]
  congr 3
  apply Array.ext'
  simp
 obtain⟨ROW,hROW⟩:∃ ROW:List Value,ROW=cs.take (i*68)++(ZA++ZB):=⟨_,rfl⟩
 have hRl:(n+1)*68<=ROW.length:=by
  rw[hROW];simp only[List.length_append,List.length_take];omega
 obtain⟨R1,hR1⟩:∃ R1:List Value,R1=cs.take (i*68)++vs++(ZA++ZB).drop 68:=⟨_,rfl⟩
 obtain⟨R2,hR2⟩:∃ R2:List Value,R2=cs.take (i*68)++vs++cs.drop (i*68)++ZB:=⟨_,rfl⟩
 have hR1l:(n+1)*68<=R1.length:=by
  rw[hR1];simp only[List.length_append,List.length_take,List.length_drop];omega
 have hGn:n+1<=G:=by rw[hG];exact grownCap_ge w _ _ _
 have hG63:G<=9223372036854775807:=by
  have:=grownCap_le_maxLen w (n+1) c 32 (by unfold maxLen;omega)
  rw[<-hG]at this
  unfold maxLen at this
  omega
 have hGi:¬ (G=i):=by omega
 have hGim:¬ (G=i+1):=by omega
 have hci:¬ (c=i):=by omega
 have hbN:b ≠ w.heap.size:=by omega
 have hvN:vb ≠ w.heap.size:=by omega
 have hdl:(cs.drop (i*68)).length=(n-i)*68:=by rw[List.length_drop,hcl];omega
 have hcpA:∀ (W:World),W.heap=(w.alloc (.cells ROW.toArray 32)).heap->∀ ty dc,(Builtin.copy_ #[75,75] ty #[.slice (some ⟨w.heap.size,i*68,none⟩) (n+1-i) dc,.slice (some ⟨vb,voff,none⟩) 1 vc]).run Tryz.prog W=.ok (goInt 1) (W.setRow w.heap.size R1.toArray):=fun W hW ty dc=>by
  have hn:W.heap[w.heap.size]? = some (.cells ROW.toArray 32 (0,0)):=by rw[hW];exact heap_alloc_new w _
  have hv1:W.heap[vb]? = some (.cells va tv (0,0)):=by rw[hW];rw[heap_alloc_old w _ hvw];exact hv
  have:=I9 (P:=Tryz.prog) W 75 75 ty 32 w.heap.size (i*68) (n+1-i) dc ⟨vb,voff,none⟩ 1 vc ROW.toArray 32 vs 68 Tryz.underlying75 Aau hn (by rw[hvl];simp only[Nat.min_def];split <;> omega)
   (fun j v hj=>by rw[Addr.add_lit];simp only[World.cell?,hv1];exact hvs j v hj) (by rw[hvl,List.size_toArray];omega) h1v
  rw[this,show Nat.min 1 (n+1-i)=1 by simp only[Nat.min_def];split <;> omega,List.toList_toArray,hROW,Ae7 hi hcl hvl,hR1];rfl
 have hcpB:∀ (W:World),(W.heap[w.heap.size]? = some (.cells R1.toArray 32 (0,0))/\W.heap[b]? = w.heap[b]?)->∀ ty dc sc,(Builtin.copy_ #[75,75] ty #[.slice (some ⟨w.heap.size,(i+1)*68,none⟩) (n-i) dc,.slice (some ⟨b,i*68,none⟩) (n-i) sc]).run Tryz.prog W=.ok (goInt ((n-i:Nat):Int)) (W.setRow w.heap.size R2.toArray):=fun W hW ty dc sc=>by
  have:=I9 (P:=Tryz.prog) W 75 75 ty 32 w.heap.size ((i+1)*68) (n-i) dc ⟨b,i*68,none⟩ (n-i) sc R1.toArray 32 (cs.drop (i*68)) 68 Tryz.underlying75 Aau hW.1 (by rw[hdl];simp only[Nat.min_def];split <;> omega)
   (fun j v hj=>by
    rw[Addr.add_lit]
    have:=hcs (i*68+j) v (by rwa [List.getElem?_drop]at hj)
    simp only[World.cell?]at this ⊢
    rw[hW.2];exact this) (by rw[hdl,List.size_toArray];omega) (fun v hv=>h1c v (List.mem_of_mem_drop hv))
  rw[this,show Nat.min (n-i) (n-i)=n-i by simp,List.toList_toArray,hR1,Ae9 hi hcl hvl,hR2]
  congr 5
  rw[List.drop_append_of_le_length (by omega),List.drop_append_of_le_length (by rw[List.length_drop];omega),List.drop_drop,List.drop_of_length_le (by omega)];rfl
 have hw1:IntKind.i64.wrap ((i:Int)+1)=(i:Int)+1:=by rw[IntKind.wrap_i64];omega
 have hw2:IntKind.i64.wrap ((n:Int)+1)=(n:Int)+1:=by rw[IntKind.wrap_i64];omega
 have hb1:(0:Int)<=(i:Int)+1:=by omega
 have hin:i<=n:=by omega
 have htn:((i:Int)+1).toNat=i+1:=by omega
 have hb3:(i:Int)<=(n:Int):=by omega
 have mixed:Tryz.prog.follows .mixedOrders=true:=by kernel_rfl
 rw[<-hG,<-hZB]at *
 rw[<-hROW]at hrz
 rw[<-hR2]
 clear hkk hik hold hZA hZB hROW hR1 hR2 hG
 have hcpA':=hcpA (w.alloc (.cells ROW.toArray 32)).drew rfl
 have hcpB':=hcpB ((w.alloc (.cells ROW.toArray 32)).drew.setRow w.heap.size R1.toArray).drew ⟨Go.setRow_heap (w.alloc (.cells ROW.toArray 32)).drew w.heap.size ROW.toArray R1.toArray 32 _ (heap_alloc_new w _),(Go.setRow_other (w.alloc (.cells ROW.toArray 32)).drew w.heap.size b R1.toArray hbN).trans (heap_alloc_old w _ hbw)⟩
 go_enter Tryz.func105,Tryz.ntmps105
 go_wp2_with (first
  | (at_builtin;refine Lib.wpList_append_run _ rfl _ _ _ _ rfl _ _ rfl rfl _ _ (hrz _) ?_)
  | (simp only[hcpA']))
 go_region_law_o (refine step_copy_runI rfl _ _ 75 75 rfl _ _ (by simp[Act.eval,Act.put]) (by simp[Act.eval,Act.put]) (hcpB' _ _ _) ?_)
 go_wp2
 go_ret
 exact⟨rfl,_,_,rfl⟩
end Go.Ev

namespace Go.Ev
open Go.Proofs Go.RowKit Go.Lib Go.Shelf
set_option maxRecDepth 100000
structure Atd(w w':World)(g:Nat)(arr:Array Value)(t:TypeId):Prop where
 row:w'.heap[g]? = some (.cells arr t (0,0))
 rest:∀ k,k<w.heap.size->k ≠ g->w'.heap[k]? = w.heap[k]?
 os:w'.os=w.os
 tape:w'.tape=w.tape
 output:w'.output=w.output
theorem Aba(w:World)(b:Nat):∀ (vs:List Value) (o:Nat) (cur:List Value) (t:TypeId) ,w.heap[b]? = some (.cells cur.toArray t (0,0))->o+vs.length<=cur.length->w.setCells b o vs=w.setRow b (cur.take o++vs++cur.drop (o+vs.length)).toArray:=by
 intro vs
 induction vs generalizing w with
 | nil=>intro o cur t h _;rw[List.append_nil,List.length_nil,Nat.add_zero,List.take_append_drop];exact(setRow_self w b _ t _ h).symm
 | cons v r ih=>
  intro o cur t h hl
  rw[List.length_cons]at hl
  have e:w.setCell ⟨b,o,none⟩ v=w.setRow b (cur.toArray.setIfInBounds o v):=setCell_eq_setRow w b o cur.toArray t _ v h
  have e2:cur.toArray.setIfInBounds o v=(cur.set o v).toArray:=by simp
  rw[World.setCells,e,e2,ih (w.setRow b (cur.set o v).toArray) (o+1) (cur.set o v) t (Go.setRow_heap w b cur.toArray _ t _ h) (by rw[List.length_set];omega),Go.setRow_setRow]
  congr 2
  rw[List.length_cons,show o+(r.length+1)=o+1+r.length by omega,List.drop_set_of_lt (by omega)]
  congr 1
  rw[List.take_succ_eq_append_getElem (by rw[List.length_set];omega),List.getElem_set_self,List.take_set_of_le (by omega),List.append_assoc];rfl
theorem Tv {w w0:World}{b:Nat}{cur arr:Array Value}{t:TypeId}(hh:w0.heap=w.heap)(ho:w0.os=w.os)(ht:w0.tape=w.tape)(hu:w0.output=w.output)(hg:w.heap[b]? = some (.cells cur t (0,0))):Atd w (w0.setRow b arr) b arr t:=
 ⟨Go.setRow_heap w0 b cur arr t _ (by rw[hh];exact hg),fun k _ hn=>(Go.setRow_other w0 b k arr hn).trans (by rw[hh]),ho,ht,hu⟩
theorem Sr(w:World)(o:Obj):(w.alloc o).heap.size=w.heap.size+1:=by
 show (w.heap.push o).size=_
 rw[Array.size_push]
set_option maxHeartbeats 1000000 in
theorem Zq(base:Option Addr)(b n c i vb voff vc:Nat)(cs more vs:List Value)(va:Array Value)(tv:TypeId)(w:World)(hi:i<=n)(hnc:n<=c)(hbig:n<=1000)(hvb:vb ≠ b)
 (hcl:cs.length=n*68) (hml:more.length=(c-n)*68) (hvl:vs.length=68) (hbase:(n=0/\c=0)\/(base=some ⟨b,0,none⟩/\w.heap[b]? = some (.cells (cs++more).toArray 32 (0,0)))) (hv:w.heap[vb]? = some (.cells va tv (0,0)))
 (hvs:∀ j v,vs[j]? = some v->va[voff+j]? = some v) (h1c:∀ v ∈ cs,v.oneCell'=true) (h1v:∀ v ∈ vs,v.oneCell'=true) :
 Calls Tryz.prog 105 #[.slice base n c,.int .i64 i,.slice (some ⟨vb,voff,none⟩) 1 vc] w fun e w'=>
  ∃ g c' more',e=.returned (.slice (some ⟨g,0,none⟩) (n+1) c')/\n+1<=c'/\more'.length=(c'-(n+1))*68/\((g=w.heap.size/\w'.heap.size=w.heap.size+1)\/(g=b/\base=some ⟨b,0,none⟩/\w'.heap.size=w.heap.size))/\Atd w w' g (cs.take (i*68)++vs++cs.drop (i*68)++more').toArray 32:=by
 have cap:n+1<=grownCap w (n+1) c 32/\grownCap w (n+1) c 32<=9223372036854775807:=by
  refine⟨grownCap_ge w _ _ _,?_⟩
  have:=grownCap_le_maxLen w (n+1) c 32 (by unfold maxLen;omega)
  unfold maxLen at this
  omega
 have full:cs.take (n*68)++vs++cs.drop (n*68)=cs++vs:=by
  rw[List.take_of_length_le (by omega),List.drop_of_length_le (by omega),List.append_nil]
 rcases hbase with ⟨rfl,rfl⟩|⟨rfl,hg⟩
 ·obtain rfl:i=0:=by omega
  refine(S5 base 0 0 vb voff vc cs vs va tv w (by omega) (by omega) (by omega) hcl hvl (fun _=>rfl) (fun _ _ j v hj=>by rw[List.length_eq_zero_iff.1 (by omega:cs.length=0)]at hj;cases hj) hv hvs h1v).mono ?_
  rintro e w' ⟨rfl,rfl⟩
  refine⟨_,_,(Builtin.zeroCells (Value.agg Tryz.zeroCells32).cells (grownCap w (0+1) 0 32-(0+1))).toList,rfl,cap.1,T3 _,.inl ⟨rfl,Sr w.drew _⟩,?_,fun k hk _=>heap_alloc_old w.drew _ hk,rfl,rfl,rfl⟩
  rw[full]
  have:=heap_alloc_new w.drew (.cells ((cs++vs).toArray++Builtin.zeroCells (Value.agg Tryz.zeroCells32).cells (grownCap w (0+1) 0 32-(0+1))) 32)
  rw[show (cs++vs++(Builtin.zeroCells (Value.agg Tryz.zeroCells32).cells (grownCap w (0+1) 0 32-(0+1))).toList).toArray=(cs++vs).toArray++Builtin.zeroCells (Value.agg Tryz.zeroCells32).cells (grownCap w (0+1) 0 32-(0+1)) by apply Array.ext';simp]
  exact this
 ·have hbw:b<w.heap.size:=(Array.getElem?_eq_some_iff.1 hg).1
  have cell:∀ j v,cs[j]? = some v->w.cell? ⟨b,j,none⟩=some v:=fun j v h=>by
   simp only[World.cell?,hg]
   rw[List.getElem?_toArray,List.getElem?_append_left (List.getElem?_eq_some_iff.1 h).1];exact h
  rcases Nat.lt_or_ge i n with hlt|hge
  ·rcases Nat.lt_or_ge c (n+1) with hr|hr
   ·refine(Ajg b n c i vb voff vc cs vs va tv w hlt hnc hr hbig hcl hvl hbw cell hv hvs h1c h1v).mono ?_
    rintro e w' ⟨rfl,ROW,R1,rfl⟩
    refine⟨_,_,(Builtin.zeroCells (Value.agg Tryz.zeroCells32).cells (grownCap w (n+1) c 32-(n+1))).toList,rfl,cap.1,T3 _,.inl ⟨rfl,?_⟩,?_,fun k hk hn=>?_,rfl,rfl,rfl⟩
    ·rw[size_setRow];show ((w.alloc (.cells ROW 32)).drew.setRow w.heap.size R1).heap.size=_;rw[size_setRow];exact Sr w _
    ·exact Go.setRow_heap _ w.heap.size R1 _ 32 _ (Go.setRow_heap (w.alloc (.cells ROW 32)).drew w.heap.size ROW R1 32 _ (heap_alloc_new w _))
    ·exact(Go.setRow_other _ w.heap.size k _ hn).trans ((Go.setRow_other (w.alloc (.cells ROW 32)).drew w.heap.size k R1 hn).trans (heap_alloc_old w _ hk))
   ·refine(Ahd b n c i vb voff vc cs more vs va 32 tv w hlt hr hbig hvb hcl hml hvl hg hv hvs h1c h1v).mono ?_
    rintro e w' ⟨rfl,rfl⟩
    exact⟨b,c,more.drop 68,rfl,hr,by rw[List.length_drop,hml];omega,.inr ⟨rfl,rfl,size_setRow ..⟩,Tv rfl rfl rfl rfl hg⟩
  ·obtain rfl:i=n:=by omega
   rcases Nat.lt_or_ge c (i+1) with hr|hr
   ·refine(S5 (some ⟨b,0,none⟩) i c vb voff vc cs vs va tv w hnc hr hbig hcl hvl (fun y=>by cases y) (fun a y j v hj=>by cases y;rw[Addr.add_lit,Nat.zero_add];exact cell j v hj) hv hvs h1v).mono ?_
    rintro e w' ⟨rfl,rfl⟩
    refine⟨_,_,(Builtin.zeroCells (Value.agg Tryz.zeroCells32).cells (grownCap w (i+1) c 32-(i+1))).toList,rfl,cap.1,T3 _,.inl ⟨rfl,Sr w.drew _⟩,?_,fun k hk _=>heap_alloc_old w.drew _ hk,rfl,rfl,rfl⟩
    rw[full]
    have:=heap_alloc_new w.drew (.cells ((cs++vs).toArray++Builtin.zeroCells (Value.agg Tryz.zeroCells32).cells (grownCap w (i+1) c 32-(i+1))) 32)
    rw[show (cs++vs++(Builtin.zeroCells (Value.agg Tryz.zeroCells32).cells (grownCap w (i+1) c 32-(i+1))).toList).toArray=(cs++vs).toArray++Builtin.zeroCells (Value.agg Tryz.zeroCells32).cells (grownCap w (i+1) c 32-(i+1)) by apply Array.ext';simp]
    exact this
   ·refine(Aas b i c vb voff vc cs more vs va 32 tv w hr hbig hcl hml hvl hg hv hvs h1v).mono ?_
    rintro e w' ⟨rfl,rfl⟩
    rw[Aba w b vs (i*68) (cs++more) 32 hg (by rw[List.length_append];omega)]
    refine⟨b,c,more.drop 68,rfl,hr,by rw[List.length_drop,hml];omega,.inr ⟨rfl,rfl,size_setRow ..⟩,?_⟩
    rw[full]
    have e:(cs++more).take (i*68)++vs++(cs++more).drop (i*68+vs.length)=cs++vs++more.drop 68:=by
     have h1:=List.take_left (l₁:=cs) (l₂:=more)
     have h2:=List.drop_left (l₁:=cs) (l₂:=more)
     rw[hcl]at h1 h2
     rw[h1,<-List.drop_drop,h2,hvl]
    rw[e]
    exact Tv rfl rfl rfl rfl hg
end Go.Ev

namespace Go.Ev
open Go.Proofs
set_option maxRecDepth 100000
noncomputable section
def Asc(s:EV)(i:Int)(j:Nat)(h:Ac):R:=
 match h.get j with
 | some (.cells vs _)=>if vs.length=68/\0<=i then
  (match s with
  | .Ab=>if i=0 then some (.slice h.next 0 1 1 true,h.new (.vec vs 32 68)) else none
  | .slice _ 0 0 0 false=>if i=0 then some (.slice h.next 0 1 1 true,h.new (.vec vs 32 68)) else none
  | .slice q 0 n n' true=>(match h.get q with
   | some (.vec l e z)=>if n'=n/\e=32/\z=68/\l.length=n*68/\i<=n/\n<=1000 then some (.slice h.next 0 (n+1) (n+1) true,(h.del q).new (.vec (l.take (i.toNat*68)++vs++l.drop (i.toNat*68)) 32 68)) else none
   | _=>none)
  | _=>none) else none
 | _=>none
def Alu:FT:=fun _ _ _ args h=>match args with
 | [s,.int .i64 i,.slice j 0 1 _ _]=>Asc s i j h
 | _=>none
theorem Ags {w w':World}{r:Obj}(h1:w'.heap[w.heap.size]? = some r)(h2:w'.heap.size=w.heap.size+1)(h3:∀ k,k<w.heap.size->k ≠ w.heap.size->w'.heap[k]? = w.heap[k]?):w'.heap=w.heap.push r:=by
 apply Array.ext_getElem?
 intro k
 rw[Array.getElem?_push]
 rcases Nat.lt_trichotomy k w.heap.size with y|y|y
 ·rw[if_neg (by omega)];exact h3 k y (by omega)
 ·rw[if_pos y,y];exact h1
 ·rw[if_neg (by omega),Array.getElem?_eq_none (by omega),Array.getElem?_eq_none (by omega)]
theorem Acn {h:Ac}{j r:Nat}{op:Bool}{vs:List EV}{te:TypeId}(hj:h.get j=some (.cells vs te))(hvl:vs.length=68){s:EV}(hs0:∀ f,∃ base,Be f s=.slice base 0 0):Good TP 105 [s,.int .i64 ((0:Nat):Int),.slice j 0 1 r op] h (.slice h.next 0 1 1 true) (h.new (.vec vs 32 68)):=by
 have hfn:∃ fn,TP.funcs[105]? = some fn/\fn.body.isSome=true/\(fn.name == "runtime.NumGoroutine")=false:=⟨Tryz.f105,Tryz.func105,by kernel_rfl,by kernel_rfl⟩
 refine⟨hfn,fun p f w hh rp _ cs=>?_,.new _ _⟩
 obtain⟨base,hbase⟩:=hs0 f
 obtain⟨ro,a1,rfl⟩:=rp.obj j _ hj
 obtain⟨_,ok1,ok2⟩:=hh.get j _ hj
 have h1v:∀ v ∈ Av f vs,v.oneCell'=true:=Ia f vs (by simpa using ok2)
 obtain⟨b,hb1,hb2⟩:∃ b,f.b j ≠ b/\base ≠ some ⟨b,0,none⟩:=by
  cases base with
  | none=>exact⟨f.b j+1,by omega,fun y=>by cases y⟩
  | some a=>exact⟨f.b j+a.block+1,by omega,fun y=>by have:=congrArg (fun x:Option Addr=>(x.map (·.block)).getD 0) y;simp at this;omega⟩
 obtain⟨e,w',fr,⟨g,c',more',rfl,hc1,hml,hg,P⟩,hs,hfr,hl⟩:=Zq base b 0 0 0 (f.b j) 0 (if op=true then r+f.sp j else r) [] [] (Av f vs) (Av f vs).toArray te w (Nat.le_refl _) (Nat.le_refl _) (by omega) hb1 rfl rfl (by rw[Bh];exact hvl) (.inl ⟨rfl,rfl⟩) a1 (fun k v hk=>by rw[Nat.zero_add,List.getElem?_toArray];exact hk) (fun v hv=>by cases hv) h1v cs
 rcases hg with ⟨rfl,hsz⟩|⟨_,y,_⟩
 ·refine⟨fr,f.set h.next w.heap.size (c'-1),w',?_,hfr,?_,Move.new hh rp (c'-1) (Ags P.row hsz P.rest) ?_ P.tape P.os P.output,Wf.new hh ⟨Gl ok1,ok2⟩,.inr ⟨Nat.le_refl _,by rw[Ac.B6];omega⟩⟩
  ·have:(Av f [s,.int .i64 ((0:Nat):Int),.slice j 0 1 r op]).toArray = #[.slice base 0 0,.int .i64 ((0:Nat):Int),.slice (some ⟨f.b j,0,none⟩) 1 (if op=true then r+f.sp j else r)]:=by
    simp only[Av,hbase];rfl
   rw[this];exact hs
  ·simp only[Be,Loc.Ie,Loc.Pt,if_true]
   rw[show 1+(c'-1)=c' by omega];exact hl
  ·refine⟨more',?_,by rw[hml,Loc.Pt]⟩
   rw[<-Cm (f.Ep w.heap.size (c'-1) hh.fresh) vs ok1]
   simp
 ·exact absurd y hb2
theorem Api:Aq TP 105 Alu:=by
 intro call round K _ _ args h v h' e
 have hfn:∃ fn,TP.funcs[105]? = some fn/\fn.body.isSome=true/\(fn.name == "runtime.NumGoroutine")=false:=⟨Tryz.f105,Tryz.func105,by kernel_rfl,by kernel_rfl⟩
 unfold Alu at e
 split at e
 ·rename_i s i j r op
  unfold Asc at e
  split at e
  ·rename_i vs te hj
   split at e
   ·rename_i hc
    obtain⟨hvl,hi0⟩:=hc
    obtain⟨i,rfl⟩:=Int.eq_ofNat_of_zero_le hi0
    split at e
    ·
     split at e
     ·rename_i hi
      cases e
      obtain rfl:i=0:=by omega
      exact Acn hj hvl fun f=>⟨none,rfl⟩
     ·cases e
    ·
     split at e
     ·rename_i hi
      cases e
      obtain rfl:i=0:=by omega
      exact Acn hj hvl fun f=>⟨_,rfl⟩
     ·cases e
    ·
     rename_i q n n'
     split at e
     ·rename_i l te' z hq
      split at e
      ·rename_i hc
       obtain⟨rfl,rfl,rfl,hl0,hin,hn⟩:=hc
       cases e
       refine⟨hfn,fun p f w hh rp _ cs=>?_,(Rd.del _ _).trans (.new _ _)⟩
       obtain⟨ro,a1,rfl⟩:=rp.obj j _ hj
       obtain⟨rq,b1,more,rfl,hm⟩:=rp.obj q _ hq
       obtain⟨_,ok1,ok2⟩:=hh.get j _ hj
       obtain⟨_,ok3,ok4⟩:=hh.get q _ hq
       have njq:f.b j ≠ f.b q:=fun y=>by
        have:=rp.inj j q _ _ hj hq y
        subst this;rw[hj]at hq;cases hq
       have h1v:∀ v ∈ Av f vs,v.oneCell'=true:=Ia f vs (by simpa using ok2)
       have h1c:∀ v ∈ Av f l,v.oneCell'=true:=Ia f l (by simpa using ok4)
       have okl:EV.Gx p (l.take (i*68)++vs++l.drop (i*68)):=by
        rw[C6]at ok1 ok3 ⊢
        intro v hv
        rcases List.mem_append.1 hv with hv|hv
        ·rcases List.mem_append.1 hv with hv|hv
         ·exact ok3 v (List.mem_of_mem_take hv)
         ·exact ok1 v hv
        ·exact ok3 v (List.mem_of_mem_drop hv)
       have onl:(l.take (i*68)++vs++l.drop (i*68)).all EV.one=true:=by
        rw[List.all_eq_true]at ok2 ok4 ⊢
        intro v hv
        rcases List.mem_append.1 hv with hv|hv
        ·rcases List.mem_append.1 hv with hv|hv
         ·exact ok4 v (List.mem_of_mem_take hv)
         ·exact ok2 v hv
        ·exact ok4 v (List.mem_of_mem_drop hv)
       have tov:∀ more':List Value,(Av f l).take (i*68)++Av f vs++(Av f l).drop (i*68)++more'=Av f (l.take (i*68)++vs++l.drop (i*68))++more':=fun more'=>by
        simp only[E8,List.map_append,List.map_take,List.map_drop]
       ·obtain⟨e,w',fr,⟨g,c',more',rfl,hc1,hml,hg,P⟩,hs,hfr,hl⟩:=Zq (some ⟨f.b q,0,none⟩) (f.b q) n' (n'+f.sp q) i (f.b j) 0 (if op=true then r+f.sp j else r) (Av f l) more (Av f vs) (Av f vs).toArray te w (by omega) (by omega) hn njq (by rw[Bh];exact hl0) (by rw[hm];congr 1;omega) (by rw[Bh];exact hvl) (.inr ⟨rfl,b1⟩) a1 (fun k v hk=>by rw[Nat.zero_add,List.getElem?_toArray];exact hk) h1c h1v cs
        have fin:∀ g,fr.leaving TP w' (.returned (.slice (some ⟨g,0,none⟩) (n'+1) c'))->fr.leaving TP w' (.returned (Be (f.set h.next g (c'-(n'+1))) (.slice h.next 0 (n'+1) (n'+1) true))):=fun g hl=>by
         simp only[Be,Loc.Ie,Loc.Pt,if_true]
         rw[show n'+1+(c'-(n'+1))=c' by omega];exact hl
        have orep:∀ g,F6 (f.set h.next g (c'-(n'+1))) h.next (.vec (l.take (i*68)++vs++l.drop (i*68)) 32 68) (.cells ((Av f l).take (i*68)++Av f vs++(Av f l).drop (i*68)++more').toArray 32 (0,0)):=fun g=>by
         refine⟨more',?_,by rw[hml,Loc.Pt]⟩
         rw[<-Cm (f.Ep _ _ hh.fresh) _ okl,tov]
        rcases hg with ⟨rfl,hsz⟩|⟨rfl,_,hsz⟩
        ·exact⟨fr,f.set h.next w.heap.size (c'-(n'+1)),w',hs,hfr,fin _ hl,Move.Auo hh rp q (c'-(n'+1)) (Ags P.row hsz P.rest) (orep _) P.tape P.os P.output,Wf.Ye hh q ⟨Gl okl,onl⟩,.inr ⟨Nat.le_refl _,by rw[Ac.B6,Ac.P2];omega⟩⟩
        ·exact⟨fr,f.set h.next (f.b q) (c'-(n'+1)),w',hs,hfr,fin _ hl,Move.Ye hh rp hq (c'-(n'+1)) P.row (orep _) (fun k hk=>by
          rcases Nat.lt_or_ge k w.heap.size with y|y
          ·exact P.rest k y hk
          ·rw[Array.getElem?_eq_none (by omega),Array.getElem?_eq_none (by omega)]) hsz P.tape P.os P.output,Wf.Ye hh q ⟨Gl okl,onl⟩,.inr ⟨Nat.le_refl _,by rw[Ac.B6,Ac.P2];omega⟩⟩
      ·cases e
     ·cases e
    ·cases e
   ·cases e
  ·cases e
 ·cases e
end
end Go.Ev
