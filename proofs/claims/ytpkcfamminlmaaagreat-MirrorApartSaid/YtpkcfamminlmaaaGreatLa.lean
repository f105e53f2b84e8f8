import Derived.Test.YtpkcfamminlmaaaGreatXb
import Derived.WalkKit
import Derived.ProofKit
import Derived.OpenShut
import Derived.Carry
import Derived.Deep.Slices
import Derived.Deep.Fields
import Derived.Test.YtpkcfamminlmaaaGreatNa
import Derived.Test.YtpkcfamminlmaaaGreatAnchor
set_option linter.unusedVariables false
set_option linter.unusedSimpArgs false
set_option linter.unusedSectionVars false
namespace Go.Ev
set_option maxRecDepth 100000
def A4g(w:World)(v:Value)(L:List Int):Prop:=(v=.slice none 0 0/\L = [])\/∃ b off cap arr e fr,v=.slice (some ⟨b,off,none⟩) L.length cap/\w.heap[b]? = some (.cells arr e fr)/\∀ (j:Nat) (x:Int),L[j]? = some x->arr[off+j]? = some (.int .i64 x)
theorem Ayx {ws:List (Nat × List EV)}{off o:Nat}{l:List EV}(hm:(o,l) ∈ ws)(h1:o<=off)(h2:off-o<l.length):∃ o' l',Vn ws off=some (o',l')/\(o',l') ∈ ws/\o'<=off/\off-o'<l'.length:=by
 induction ws with
 | nil=>cases hm
 | cons x r ih=>
  obtain⟨o',l'⟩:=x
  unfold Vn
  by_cases c:o'<=off/\off-o'<l'.length
  ·refine⟨o',l',?_,List.mem_cons_self ..,c.1,c.2⟩
   rw[Nat.ble_eq_true_of_le c.1,Ai,show Nat.ble (Nat.succ (Nat.sub off o')) (len l')=true from Nat.ble_eq_true_of_le (by rw[Oj];exact c.2),Ai]
  ·have hf:Ao (Nat.ble o' off) (Nat.ble (Nat.succ (Nat.sub off o')) (len l')) false=false:=by
    cases hb:Nat.ble o' off with
    | false=>rfl
    | true=>
     rw[Ai]
     cases hc:Nat.ble (Nat.succ (Nat.sub off o')) (len l') with
     | false=>rfl
     | true=>
      have y:=Nat.le_of_ble_eq_true hc
      rw[Oj]at y
      exact absurd ⟨Nat.le_of_ble_eq_true hb,y⟩ c
   rw[hf,Aw]
   rcases List.mem_cons.1 hm with y|y
   ·cases y;exact absurd ⟨h1,h2⟩ c
   ·obtain⟨o2,l2,e1,e2,e3⟩:=ih y
    exact⟨o2,l2,e1,List.mem_cons_of_mem _ e2,e3⟩
noncomputable def Au6(o0 o1:Option Cn):Aa:=⟨(Tr.put .nil 0 o0).put 1 o1,2,2⟩
theorem Rb(o0 o1:Option Cn)(i:Nat):(Au6 o0 o1).get i=if i=1 then o1 else if i=0 then o0 else none:=by
 show ((Tr.put .nil 0 o0).put 1 o1).get i=_
 rw[Tr.get_put,Tr.get_put]
 by_cases h1:i=1
 ·rw[if_pos h1.symm,if_pos h1]
 ·rw[if_neg (fun y=>h1 y.symm),if_neg h1]
  by_cases h0:i=0
  ·rw[if_pos h0.symm,if_pos h0]
  ·rw[if_neg (fun y=>h0 y.symm),if_neg h0];rfl
structure A4t(w:World)(h:Aa)(f:Loc):Prop where
 W9:Ny (fun i=>i<2) h
 rep:Ns f h w
 hb:HB h
 next:h.next=2
 view:∀ i o,h.get i=some o->∃ ws r,o=.view ws r
theorem Asd {P:Program}{g:Nat}{w:World}{h:Aa}{f:Loc}(l:A4t w h f){args:List EV}{vs:List Value}(ha:A0 f args=vs)(ho:EV.Nu (fun i=>i<2) args){v:EV}{V:Value}(hv:∀ f,Bq f v=V){h':Aa}
 (G:Good P g args h v h') (same:∀ i,i<2->h'.get i=h.get i):Calls P g vs.toArray w fun e w'=>e=.returned V/\RowKit.Below w.heap.size w w':=by
 intro cs
 obtain⟨fr,f',w',hs,hfr,hl,hm,Rl,hvo⟩:=G.run _ f w l.W9 l.rep ho cs
 rw[ha]at hs
 rw[hv]at hl
 refine⟨.returned V,w',fr,⟨rfl,hm.os,hm.tape,hm.output,hm.size,fun k hk=>?_⟩,hs,hfr,hl⟩
 by_cases hx:∃ i o,h.get i=some o/\f.b i=k
 ·obtain⟨i,o,hi,rfl⟩:=hx
  have li:=(l.W9.get i o hi).1
  obtain⟨ws,r,rfl⟩:=l.view i o hi
  obtain⟨r1,e1,q1,_⟩:=l.rep.obj i _ hi
  have hi':h'.get i=some (.view ws r):=by rw[same i li];exact hi
  obtain⟨r2,e2,q2,_⟩:=hm.rep.obj i _ hi'
  rw[<-(hm.agree i li).1]at e2
  rw[e2,e1,q1,q2]
 ·exact hm.kept k hk fun i o hi e=>hx ⟨i,o,hi,e⟩
end Go.Ev

namespace Go.Ev
open Go.ChangeShapes Go.WideShapes Go.ChangeAt Go.RowKit Go.Deep
set_option maxRecDepth 100000
theorem Az6 {P:Program}{w:World}{base:Nat}{t e:TypeId}{v:Value}(ht:P.underlying t=some (.slice e))(h:Value.okWide P w .any base t v):v=.slice none 0 0\/∃ a len cap,v=.slice (some a) len cap/\a.spot=none/\∃ row cells,w.shape? a.block=some (row,cells):=by
 unfold Value.okWide at h
 rw[ht]at h
 simp only at h
 unfold Cell.okWide at h
 rw[ht]at h
 simp only at h
 unfold Cell.ok at h
 rw[ht]at h
 split at h <;> first|(rename_i e;cases e;done)|skip
 all_goals first|exact .inl rfl|skip
 all_goals first|(exact h.elim)|skip
 ·rename_i e
  cases e
  exact .inr ⟨_,_,_,rfl,h.2.2.2.1,by obtain⟨row,cells,hs,_⟩:=h.2.2.2.2;exact⟨row,cells,hs⟩⟩
theorem A0n {P:Program}{W:World}{H:Type}{enc:TypeId × Value->H}{base b2:Nat}{sp:Nat->Bool}{hd:Bool}{t e:TypeId}{v:Value}{d:DataW H}{p:List MemPlace}(ht:P.underlying t=some (.slice e))(he:P.underlying e=some (.int .i64))(hc:P.cellsOf e=1)
 (ho:Value.okWide P W .any base t v) (h:DataW.Trod enc P W b2 sp hd t v d p):∃ L:List Int,A4g W v L/\∀ x ∈ L,-9223372036854775808<=x/\x<=9223372036854775807:=by
 rcases Az6 ht ho with rfl|⟨⟨b,off,spot⟩,len,cap,rfl,hspot,row,cells,hshape⟩
 ·exact⟨[],.inl ⟨rfl,rfl⟩,fun x hx=>by cases hx⟩
 ·obtain⟨fuel,hf⟩:=h
  simp only at hspot
  subst hspot
  rcases open_slice1 ht hc hf with ⟨hx,_⟩|⟨a,len',cap',m,n,V,D,Pl,hx,hb,hl,hm,hmm,_,hi⟩
  ·cases hx
  ·cases hx
   unfold World.shape? at hshape
   split at hshape
   ·rename_i arr e' fr hw
    have hlm:len<=m:=by rw[hmm];split <;> omega
    have each:∀ i,∃ x:Int,i<len->arr[off+i]? = some (.int .i64 x)/\-9223372036854775808<=x/\x<=9223372036854775807:=by
     intro i
     by_cases hil:i<len
     ·obtain⟨h1,h2⟩:=hi i (by omega)
      obtain⟨x,e0,_,wf⟩:=DataW.trod_int he h2
      refine⟨x,fun _=>⟨?_,?_⟩⟩
      ·simp only[List.cons.injEq,and_true]at e0
       rw[e0]at h1
       unfold Addr.add at h1
       split at h1
       ·rename_i h0
        simp only[World.cell?,hw]at h1
        subst h0
        simpa using h1
       ·simp only[World.cell?,hw]at h1
        simpa using h1
      ·have wf:(decide (IntKind.i64.min<=x) && decide (x<=IntKind.i64.max))=true:=wf
       rw[Bool.and_eq_true,decide_eq_true_eq,decide_eq_true_eq]at wf
       exact wf
     ·exact⟨0,fun y=>absurd y hil⟩
    have F:∀ i,{ x:Int // i<len->arr[off+i]? = some (.int .i64 x)/\-9223372036854775808<=x/\x<=9223372036854775807 }:=fun i=>⟨Classical.choose (each i),Classical.choose_spec (each i)⟩
    have get:∀ (j:Nat) (x:Int),((List.range len).map fun i=>(F i).1)[j]? = some x->j<len/\x=(F j).1:=fun j x hj=>by
     rw[List.getElem?_map]at hj
     have hjl:j<len:=by
      cases hr:(List.range len)[j]? with
      | none=>rw[hr]at hj;cases hj
      | some k=>have:=(List.getElem?_eq_some_iff.1 hr).1;simpa using this
     rw[List.getElem?_range hjl]at hj
     cases hj
     exact⟨hjl,rfl⟩
    refine⟨(List.range len).map fun i=>(F i).1,.inr ⟨b,off,cap,arr,e',fr,by simp,hw,fun j x hj=>?_⟩,fun x hx=>?_⟩
    ·obtain⟨hjl,rfl⟩:=get j x hj
     exact((F j).2 hjl).1
    ·obtain⟨i,hi',rfl⟩:=List.mem_map.1 hx
     exact((F i).2 (by simpa using hi')).2
   ·cases hshape
end Go.Ev

namespace Go.Ev
open Go.Proofs Go.ChangeShapes Go.WideShapes Go.ChangeAt Go.RowKit Go.Deep
set_option maxRecDepth 100000
def iv:EV->Value
 | .int k n=>.int k n
 | _=>.bool false
theorem A5i {f:Loc}{v:EV}(h:∃ k n,v=.int k n):Bq f v=iv v:=by obtain⟨k,n,rfl⟩:=h;rfl
theorem A2f {e:F6}(w:e.Wf):∀ v ∈ e.cells,∃ k n,v=.int k n:=fun v hv=>by
 unfold F6.cells at hv
 rcases List.mem_append.1 hv with hv|hv
 ·simp only[List.mem_cons,List.not_mem_nil,or_false]at hv
  rcases hv with rfl|rfl|rfl|rfl <;> exact⟨_,_,rfl⟩
 ·obtain⟨l,_,e1⟩:=w.u8
  rw[e1]at hv
  unfold E2 at hv
  obtain⟨b,_,rfl⟩:=List.mem_map.1 hv
  exact⟨_,_,rfl⟩
def A5c(w:World)(v:Value)(L:List F6):Prop:=(v=.slice none 0 0/\L = [])\/∃ b off cap arr e fr,v=.slice (some ⟨b,off,none⟩) L.length cap/\w.heap[b]? = some (.cells arr e fr)/\∀ (j:Nat) (x:EV),(L.map F6.cells).flatten[j]? = some x->arr[off+j]? = some (iv x)
section
variable {W:World}{H:Type}{enc:TypeId × Value->H}{base:Nat}{sp:Nat->Bool}{hd:Bool}
theorem All {n:Nat}{t:TypeId}{k:IntKind}{cs:List Value}{o:Option (DataW H × List MemPlace)}(ht:Tryz.prog.underlying t=some (.int k))(h:DataW.trod enc Tryz.prog W base sp hd n t cs=o)(ho:o ≠ none):∃ x:Int,cs = [.int k x]/\(Lit.int k x).wf=true:=by
 cases o with
 | none=>exact absurd rfl ho
 | some y=>
  obtain⟨x,e,_,w⟩:=DataW.trod_int ht h
  exact⟨x,e,w⟩
theorem take_one {cs:List Value}{i:Nat}{v:Value}(h:(cs.drop i).take 1 = [v]):cs[i]? = some v:=by
 cases hd:cs.drop i with
 | nil=>rw[hd]at h;cases h
 | cons a r=>
  rw[hd]at h
  have e:(cs.drop i)[0]? = some a:=by rw[hd];rfl
  rw[List.getElem?_drop,Nat.add_zero]at e
  rw[e]
  simp only[List.take_succ_cons,List.take_zero,List.cons.injEq,and_true]at h
  rw[h]
theorem A2x {fuel:Nat}{cs:List Value}{x:DataW H × List MemPlace}(h:DataW.trod enc Tryz.prog W base sp hd fuel 105 cs=some x):∃ e:F6,e.Wf/\∀ (j:Nat) v,e.cells[j]? = some v->cs[j]? = some (iv v):=by
 obtain⟨xs,n,_,_,hlen,hxl,hf⟩:=DataW.trod_struct Tryz.underlying105 h
 have c3:Tryz.prog.cellsOf 3=1:=by kernel_rfl
 have c5:Tryz.prog.cellsOf 5=1:=by kernel_rfl
 have c103:Tryz.prog.cellsOf 103=64:=by kernel_rfl
 have c105:Tryz.prog.cellsOf 105=68:=by kernel_rfl
 have hx5:xs.length=5:=hxl
 have nn:∀ i,i<5->xs[i]? ≠ none:=fun i hi=>by rw[List.getElem?_eq_getElem (by omega)];exact fun y=>by cases y
 have num0:∃ a:Int,cs[0]? = some (.int .i64 a):=by
  have t:DataW.trod enc Tryz.prog W base sp hd n 3 ((cs.drop 0).take (Tryz.prog.cellsOf 3))=xs[0]?:=hf 0 _ rfl
  rw[c3]at t
  obtain⟨a,e,_⟩:=All Tryz.underlying3 t (nn 0 (by omega))
  exact⟨a,take_one e⟩
 have num1:∃ a:Int,cs[1]? = some (.int .i64 a):=by
  have t:DataW.trod enc Tryz.prog W base sp hd n 3 ((cs.drop 1).take (Tryz.prog.cellsOf 3))=xs[1]?:=hf 1 _ rfl
  rw[c3]at t
  obtain⟨a,e,_⟩:=All Tryz.underlying3 t (nn 1 (by omega))
  exact⟨a,take_one e⟩
 have num2:∃ a:Int,cs[2]? = some (.int .i64 a):=by
  have t:DataW.trod enc Tryz.prog W base sp hd n 3 ((cs.drop 2).take (Tryz.prog.cellsOf 3))=xs[2]?:=hf 2 _ rfl
  rw[c3]at t
  obtain⟨a,e,_⟩:=All Tryz.underlying3 t (nn 2 (by omega))
  exact⟨a,take_one e⟩
 have num3:∃ a:Int,cs[3]? = some (.int .i64 a):=by
  have t:DataW.trod enc Tryz.prog W base sp hd n 3 ((cs.drop 3).take (Tryz.prog.cellsOf 3))=xs[3]?:=hf 3 _ rfl
  rw[c3]at t
  obtain⟨a,e,_⟩:=All Tryz.underlying3 t (nn 3 (by omega))
  exact⟨a,take_one e⟩
 have pat:∀ i,i<64->∃ b:Nat,b<256/\cs[4+i]? = some (.int .u8 (b:Int)):=fun i hi=>by
  have h4:DataW.trod enc Tryz.prog W base sp hd n 103 ((cs.drop 4).take (Tryz.prog.cellsOf 103))=xs[4]?:=hf 4 _ rfl
  rw[c103,List.getElem?_eq_getElem (by omega)]at h4
  obtain⟨ys,m,_,_,_,hyl,hg⟩:=DataW.trod_array Tryz.underlying103 h4
  have:=hg i hi
  rw[c5,Nat.mul_one]at this
  obtain⟨a,e,wf⟩:=All Tryz.underlying5 this (by rw[List.getElem?_eq_getElem (by omega)];exact fun y=>by cases y)
  have e1:=take_one e
  rw[List.getElem?_take,if_pos hi,List.getElem?_drop]at e1
  have wf:(decide (IntKind.u8.min<=a) && decide (a<=IntKind.u8.max))=true:=wf
  rw[Bool.and_eq_true,decide_eq_true_eq,decide_eq_true_eq]at wf
  have w1:(0:Int)<=a:=wf.1
  have w2:a<=255:=wf.2
  refine⟨a.toNat,by omega,?_⟩
  rw[show ((a.toNat:Nat):Int)=a by omega];exact e1
 obtain⟨a0,e0⟩:=num0
 obtain⟨a1,e1⟩:=num1
 obtain⟨a2,e2⟩:=num2
 obtain⟨a3,e3⟩:=num3
 have each:∀ i,∃ b:Nat,b<256/\(i<64->cs[4+i]? = some (.int .u8 (b:Int))):=fun i=>by
  by_cases hi:i<64
  ·obtain⟨b,b1,b2⟩:=pat i hi;exact⟨b,b1,fun _=>b2⟩
  ·exact⟨0,by decide,fun y=>absurd y hi⟩
 have F:∀ i,{ b:Nat // b<256/\(i<64->cs[4+i]? = some (.int .u8 (b:Int))) }:=fun i=>⟨Classical.choose (each i),Classical.choose_spec (each i)⟩
 have hu:∀ b ∈ (List.range 64).map fun i=>(F i).1,b<256:=fun b hb=>by obtain⟨i,_,rfl⟩:=List.mem_map.1 hb;exact(F i).2.1
 refine⟨⟨a0,a1,a2,a3,E2 ((List.range 64).map fun i=>(F i).1)⟩,⟨⟨_,hu,rfl⟩,by rw[Ep,List.length_map,List.length_range]⟩,fun j v hj=>?_⟩
 unfold F6.cells at hj
 rcases Nat.lt_or_ge j 4 with y|y
 ·rw[List.getElem?_append_left (by show j<4;exact y)]at hj
  rcases j with _|_|_|_|j
  ·cases hj;exact e0
  ·cases hj;exact e1
  ·cases hj;exact e2
  ·cases hj;exact e3
  ·omega
 ·rw[List.getElem?_append_right (by show 4<=j;exact y)]at hj
  have hj:(E2 ((List.range 64).map fun i=>(F i).1))[j-4]? = some v:=hj
  have hlt:j-4<64:=by
   have:=(List.getElem?_eq_some_iff.1 hj).1
   rw[Ep,List.length_map,List.length_range]at this;exact this
  unfold E2 at hj
  rw[List.getElem?_map,List.getElem?_map,List.getElem?_range hlt]at hj
  cases hj
  have key:∀ i,i=j->cs[i]? = some (.int .u8 (((F (j-4)).1:Nat):Int))->cs[j]? = some (.int .u8 (((F (j-4)).1:Nat):Int)):=fun i e h=>by subst e;exact h
  exact key (4+(j-4)) (by omega) ((F (j-4)).2.2 hlt)
end
theorem A18 {L:List F6}(hw:∀ e ∈ L,e.Wf){i r:Nat}(hi:i<L.length)(hr:r<68):(L.map F6.cells).flatten[i*68+r]? = (L[i]).cells[r]?:=by
 obtain⟨e,h1,h2⟩:=Abx (n:=68) (Yx hw) (j:=i) (by rw[List.length_map];exact hi)
 rw[e,List.append_assoc,List.getElem?_append_right (by omega),h1,show i*68+r-i*68=r by omega,List.getElem_map,List.getElem?_append_left (by rw[F6.Cb (hw _ (List.getElem_mem hi))];exact hr)]
theorem As9 {W:World}{H:Type}{enc:TypeId × Value->H}{base b2:Nat}{sp:Nat->Bool}{hd:Bool}{v:Value}{d:DataW H}{p:List MemPlace}
 (ho:Value.okWide Tryz.prog W .any base 101 v) (h:DataW.Trod enc Tryz.prog W b2 sp hd 101 v d p):∃ L:List F6,A5c W v L/\∀ e ∈ L,e.Wf:=by
 rcases Az6 Tryz.underlying101 ho with rfl|⟨⟨b,off,spot⟩,len,cap,rfl,hspot,row,cells,hshape⟩
 ·exact⟨[],.inl ⟨rfl,rfl⟩,fun x hx=>by cases hx⟩
 ·obtain⟨fuel,hf⟩:=h
  simp only at hspot
  subst hspot
  have c105:Tryz.prog.cellsOf 105=68:=by kernel_rfl
  rcases open_slice Tryz.underlying101 hf with ⟨hx,_⟩|⟨a,len',cap',m,n,D,Pl,hx,hb,hl,hm,hmm,_,hi⟩
  ·cases hx
  ·cases hx
   unfold World.shape? at hshape
   split at hshape
   ·rename_i arr e' fr hw
    have hlm:len<=m:=by rw[hmm];split <;> omega
    have each:∀ i,∃ e:F6,e.Wf/\(i<len->∀ (r:Nat) v,e.cells[r]? = some v->arr[off+(i*68+r)]? = some (iv v)):=by
     intro i
     by_cases hil:i<len
     ·obtain⟨cs',h1,h2⟩:=hi i (by omega)
      rw[c105]at h1
      obtain⟨e,w,he⟩:=A2x h2
      refine⟨e,w,fun _ r v hr=>?_⟩
      have hr68:r<68:=by
       have:=(List.getElem?_eq_some_iff.1 hr).1
       rw[F6.Cb w]at this;exact this
      obtain⟨_,hlen,hc⟩:=World.cells?_some h1
      have:=hc r hr68
      rw[he r v hr,Addr.add_lit,Addr.add_lit]at this
      simp only[World.cell?,hw]at this
      rw[<-Nat.add_assoc];exact this
     ·exact⟨⟨0,0,0,0,Yf⟩,⟨U8.zs,rfl⟩,fun y=>absurd y hil⟩
    have F:∀ i,{ e:F6 // e.Wf/\(i<len->∀ (r:Nat) v,e.cells[r]? = some v->arr[off+(i*68+r)]? = some (iv v)) }:=fun i=>⟨Classical.choose (each i),Classical.choose_spec (each i)⟩
    have hw':∀ e ∈ (List.range len).map fun i=>(F i).1,e.Wf:=fun e he=>by obtain⟨i,_,rfl⟩:=List.mem_map.1 he;exact(F i).2.1
    have hll:((List.range len).map fun i=>(F i).1).length=len:=by simp
    refine⟨(List.range len).map fun i=>(F i).1,.inr ⟨b,off,cap,arr,e',fr,by rw[hll],hw,fun j v hj=>?_⟩,hw'⟩
    have hjl:=(List.getElem?_eq_some_iff.1 hj).1
    rw[Pe (n:=68) _ (Yx hw'),List.length_map,hll]at hjl
    have hil:j / 68<len:=by omega
    have e1:j=j / 68*68+j % 68:=by omega
    have hr:j % 68<68:=Nat.mod_lt _ (by decide)
    rw[e1,A18 hw' (by rw[hll];exact hil) hr,List.getElem_map,List.getElem_range]at hj
    have:=(F (j / 68)).2.2 hil _ _ hj
    rw[e1];exact this
   ·cases hshape
structure Aj7(ws:List (Nat × List EV))(arr:Array Value):Prop where
 all:∀ x ∈ ws,(∀ v ∈ x.2,∃ k n,v=EV.int k n)/\∀ (j:Nat) v,x.2[j]? = some v->arr[x.1+j]? = some (iv v)
def Az5(w:World)(b:Nat)(o:Cn):Prop:=∃ ws arr e fr,o=.view ws (.cells arr e fr)/\w.heap[b]? = some (.cells arr e fr)/\Aj7 ws arr
theorem Aqg {w:World}{o0 o1:Option Cn}{b0 b1:Nat}(h0:∀ o,o0=some o->Az5 w b0 o)(h1:∀ o,o1=some o->Az5 w b1 o)(ne:∀ o o',o0=some o->o1=some o'->b0 ≠ b1):
 A4t w (Au6 o0 o1) ⟨fun i=>if i=1 then b1 else b0,fun _=>0⟩:=by
 have cs:∀ i o,(Au6 o0 o1).get i=some o->(i=1/\o1=some o)\/(i=0/\o0=some o):=fun i o e=>by
  rw[Rb]at e
  split at e
  ·rename_i y;exact .inl ⟨y,e⟩
  ·split at e
   ·rename_i y;exact .inr ⟨y,e⟩
   ·cases e
 have vo:∀ i o,(Au6 o0 o1).get i=some o->Az5 w (if i=1 then b1 else b0) o:=fun i o e=>by
  rcases cs i o e with ⟨rfl,y⟩|⟨rfl,y⟩
  ·exact h1 o y
  ·exact h0 o y
 refine⟨⟨fun i hi=>hi,fun i o e=>?_⟩,⟨fun i o e=>?_,fun i j o o' e e' y=>?_⟩,fun q o e=>?_,rfl,fun i o e=>?_⟩
 ·refine⟨by rcases cs i o e with ⟨rfl,_⟩|⟨rfl,_⟩ <;> omega,?_⟩
  obtain⟨ws,arr,t,fr,rfl,_,W⟩:=vo i o e
  intro x hx
  have hi:=(W.all x hx).1
  constructor
  ·rw[F8];intro v hv;obtain⟨k,n,rfl⟩:=hi v hv;trivial
  ·rw[List.all_eq_true];intro v hv;obtain⟨k,n,rfl⟩:=hi v hv;rfl
 ·obtain⟨ws,arr,t,fr,rfl,g,W⟩:=vo i o e
  refine⟨_,g,rfl,arr,t,fr,rfl,fun x hx j v hj=>?_⟩
  obtain⟨hi,hv⟩:=W.all x hx
  rw[A5i (hi v (List.mem_of_getElem? hj))]
  exact hv j v hj
 ·have y:(if i=1 then b1 else b0)=(if j=1 then b1 else b0):=y
  rcases cs i o e with ⟨rfl,a⟩|⟨rfl,a⟩ <;> rcases cs j o' e' with ⟨rfl,b⟩|⟨rfl,b⟩
  ·rfl
  ·rw[if_pos rfl,if_neg (by omega)]at y;exact absurd y.symm (ne _ _ b a)
  ·rw[if_neg (by omega),if_pos rfl]at y;exact absurd y (ne _ _ a b)
  ·rfl
 ·rcases cs q o e with ⟨rfl,_⟩|⟨rfl,_⟩
  ·show 1<2;omega
  ·show 0<2;omega
 ·obtain⟨ws,arr,t,fr,rfl,_⟩:=vo i o e
  exact⟨_,_,rfl⟩
theorem Ak0 {ws:List (Nat × List EV)}{arr:Array Value}{r:Obj}(W:Aj7 ws arr){h:Aa}{q:Nat}(hg:h.get q=some (.view ws r)){off:Nat}{L:List Int}(hm:(off,L.map I) ∈ ws)(hL:∀ (j:Nat) (a:Int),L[j]? = some a->arr[off+j]? = some (.int .i64 a))
 {j:Nat} (hj:j<L.length) (k:EV->R):Am (.ptr q (off+j)) h k=k (I L[j]):=by
 obtain⟨o,l,e1,e2,e3,e4⟩:=Ayx (off:=off+j) hm (by omega) (by rw[List.length_map];omega)
 obtain⟨hi,hl⟩:=W.all _ e2
 simp only at hi hl e4
 have a1:=hL j L[j] (List.getElem?_eq_getElem hj)
 have a2:=hl (off+j-o) l[off+j-o] (List.getElem?_eq_getElem e4)
 rw[show o+(off+j-o)=off+j by omega,a1]at a2
 have hv:l[off+j-o]=I L[j]:=by
  obtain⟨kk,n,e⟩:=hi l[off+j-o] (List.getElem_mem e4)
  rw[e]at a2 ⊢
  have y:=Option.some.inj a2
  injection y with y1 y2
  subst y1 y2;rfl
 show oB _ (Zr (h.get q) (off+j) 1)=_
 rw[hg]
 show oB _ (match Vn ws (off+j) with|some (o,l)=>Oh l (Nat.sub (off+j) o) 1|none=>none)=_
 rw[e1]
 have hc:Oh l (Nat.sub (off+j) o) 1=some [I L[j]]:=by
  rw[Im (by show off+j-o+1<=_;omega)]
  congr 1
  show (l.drop (off+j-o)).take 1=_
  rw[List.drop_eq_getElem_cons e4,hv]
  rfl
 show oB _ (Oh l (Nat.sub (off+j) o) 1)=_
 rw[hc];rfl
theorem Aoz {ws:List (Nat × List EV)}{r:Obj}{h:Aa}{q off:Nat}{L:List F6}(hw:∀ e ∈ L,e.Wf)(hg:h.get q=some (.view ((off,(L.map F6.cells).flatten)::ws) r)){j:Nat}(hj:j<L.length)(k:EV->R):B8 68 (.ptr q (off+j*68)) h k=k (.agg L[j].cells):=by
 have fl:(L.map F6.cells).flatten.length=L.length*68:=by rw[Pe (n:=68) _ (Yx hw),List.length_map]
 have hwin:Vn ((off,(L.map F6.cells).flatten)::ws) (off+j*68)=some (off,(L.map F6.cells).flatten):=by
  unfold Vn
  rw[Nat.ble_eq_true_of_le (show off<=off+j*68 by omega),Ai,show Nat.ble (Nat.succ (Nat.sub (off+j*68) off)) (len (L.map F6.cells).flatten)=true from Nat.ble_eq_true_of_le (by rw[Oj,fl];show off+j*68-off+1<=_;omega),Ai]
 show oB _ (Zr (h.get q) (off+j*68) 68)=_
 rw[hg]
 show oB _ (match Vn ((off,(L.map F6.cells).flatten)::ws) (off+j*68) with|some (o,l)=>Oh l (Nat.sub (off+j*68) o) 68|none=>none)=_
 rw[hwin]
 have hc:=Amx (n:=68) (Yx hw) (j:=j) (by rw[List.length_map];exact hj)
 show oB _ (Oh (L.map F6.cells).flatten (Nat.sub (off+j*68) off) 68)=_
 rw[show Nat.sub (off+j*68) off=j*68 by show off+j*68-off=_;omega,hc,List.getElem_map]
 rfl
theorem A5f {w:World}{v1 v2:Value}{L1:List Int}{L2:List F6}(R1:A4g w v1 L1)(R2:A5c w v2 L2)(hw:∀ e ∈ L2,e.Wf):∃ (h:Aa) (f:Loc) (zv kv:EV) (zb kb:Nat),A4t w h f/\Bq f zv=v1/\Bq f kv=v2/\zv.ok (fun i=>i<2)/\kv.ok (fun i=>i<2)/\zb<2/\kb<2/\Ain h zv zb L1/\Adf h kv kb L2:=by
 have fi:∀ v ∈ (L2.map F6.cells).flatten,∃ k n,v=EV.int k n:=fun v hv=>by
  obtain⟨l,hl,hv⟩:=List.mem_flatten.1 hv
  obtain⟨e,he,rfl⟩:=List.mem_map.1 hl
  exact A2f (hw e he) v hv
 have i1:∀ {off:Nat} {arr:Array Value},(∀ (j:Nat) (x:Int),L1[j]? = some x->arr[off+j]? = some (.int .i64 x))->(∀ v ∈ L1.map I,∃ k n,v=EV.int k n)/\∀ (j:Nat) v,(L1.map I)[j]? = some v->arr[off+j]? = some (iv v):=fun {off arr} h=>by
  refine⟨fun v hv=>?_,fun j v hv=>?_⟩
  ·obtain⟨a,_,rfl⟩:=List.mem_map.1 hv;exact⟨_,_,rfl⟩
  ·rw[List.getElem?_map]at hv
   cases hx:L1[j]? with
   | none=>rw[hx]at hv;cases hv
   | some a=>rw[hx]at hv;cases hv;exact h j a hx
 rcases R1 with ⟨rfl,rfl⟩|⟨b1,o1,c1,a1,e1,f1,rfl,g1,h1⟩ <;> rcases R2 with ⟨rfl,rfl⟩|⟨b2,o2,c2,a2,e2,f2,rfl,g2,h2⟩
 ·exact⟨_,_,.Ag,.Ag,0,0,Aqg (w:=w) (o0:=none) (o1:=none) (b0:=0) (b1:=1) (fun _ y=>by cases y) (fun _ y=>by cases y) (fun _ _ y=>by cases y),rfl,rfl,trivial,trivial,by omega,by omega,⟨.inl ⟨rfl,rfl⟩⟩,⟨.inl ⟨rfl,rfl⟩,hw⟩⟩
 ·have W2:Aj7 [(o2,(L2.map F6.cells).flatten)] a2:=⟨fun x hx=>by rw[List.mem_singleton.1 hx];exact⟨fi,h2⟩⟩
  refine⟨_,_,.Ag,.slice 0 o2 L2.length c2 false,0,0,Aqg (w:=w) (o0:=some (.view [(o2,(L2.map F6.cells).flatten)] (.cells a2 e2 f2))) (o1:=none) (b0:=b2) (b1:=0) (fun _ y=>by cases y;exact⟨_,_,_,_,rfl,g2,W2⟩) (fun _ y=>by cases y) (fun _ _ _ y=>by cases y),rfl,rfl,trivial,(by show 0<2;omega),by omega,by omega,⟨.inl ⟨rfl,rfl⟩⟩,⟨.inr ⟨o2,c2,false,rfl,fun j hj k=>?_⟩,hw⟩⟩
  exact Aoz hw (by rw[Rb];rfl) hj k
 ·have W1:Aj7 [(o1,L1.map I)] a1:=⟨fun x hx=>by rw[List.mem_singleton.1 hx];exact i1 h1⟩
  refine⟨_,_,.slice 0 o1 L1.length c1 false,.Ag,0,0,Aqg (w:=w) (o0:=some (.view [(o1,L1.map I)] (.cells a1 e1 f1))) (o1:=none) (b0:=b1) (b1:=0) (fun _ y=>by cases y;exact⟨_,_,_,_,rfl,g1,W1⟩) (fun _ y=>by cases y) (fun _ _ _ y=>by cases y),rfl,rfl,(by show 0<2;omega),trivial,by omega,by omega,⟨.inr ⟨o1,c1,false,rfl,fun j hj k=>?_⟩⟩,⟨.inl ⟨rfl,rfl⟩,hw⟩⟩
  exact Ak0 W1 (by rw[Rb];rfl) (List.mem_singleton.2 rfl) h1 hj k
 ·by_cases hb:b1=b2
  ·subst hb
   rw[g1]at g2
   cases g2
   have W2:Aj7 [(o2,(L2.map F6.cells).flatten),(o1,L1.map I)] a1:=⟨fun x hx=>by
    rcases List.mem_cons.1 hx with y|y
    ·subst y;exact⟨fi,h2⟩
    ·rw[List.mem_singleton.1 y];exact i1 h1⟩
   refine⟨_,_,.slice 0 o1 L1.length c1 false,.slice 0 o2 L2.length c2 false,0,0,Aqg (w:=w) (o0:=some (.view [(o2,(L2.map F6.cells).flatten),(o1,L1.map I)] (.cells a1 e1 f1))) (o1:=none) (b0:=b1) (b1:=0) (fun _ y=>by cases y;exact⟨_,_,_,_,rfl,g1,W2⟩) (fun _ y=>by cases y) (fun _ _ _ y=>by cases y),rfl,rfl,(by show 0<2;omega),(by show 0<2;omega),by omega,by omega,
    ⟨.inr ⟨o1,c1,false,rfl,fun j hj k=>?_⟩⟩,⟨.inr ⟨o2,c2,false,rfl,fun j hj k=>?_⟩,hw⟩⟩
   ·exact Ak0 W2 (by rw[Rb];rfl) (List.mem_cons_of_mem _ (List.mem_singleton.2 rfl)) h1 hj k
   ·exact Aoz hw (by rw[Rb];rfl) hj k
  ·have W1:Aj7 [(o1,L1.map I)] a1:=⟨fun x hx=>by rw[List.mem_singleton.1 hx];exact i1 h1⟩
   have W2:Aj7 [(o2,(L2.map F6.cells).flatten)] a2:=⟨fun x hx=>by rw[List.mem_singleton.1 hx];exact⟨fi,h2⟩⟩
   refine⟨_,_,.slice 0 o1 L1.length c1 false,.slice 1 o2 L2.length c2 false,0,1,Aqg (w:=w) (o0:=some (.view [(o1,L1.map I)] (.cells a1 e1 f1))) (o1:=some (.view [(o2,(L2.map F6.cells).flatten)] (.cells a2 e2 f2))) (b0:=b1) (b1:=b2) (fun _ y=>by cases y;exact⟨_,_,_,_,rfl,g1,W1⟩) (fun _ y=>by cases y;exact⟨_,_,_,_,rfl,g2,W2⟩) (fun _ _ _ _=>hb),rfl,rfl,(by show 0<2;omega),(by show 1<2;omega),by omega,by omega,
    ⟨.inr ⟨o1,c1,false,rfl,fun j hj k=>?_⟩⟩,⟨.inr ⟨o2,c2,false,rfl,fun j hj k=>?_⟩,hw⟩⟩
   ·exact Ak0 W1 (by rw[Rb];rfl) (List.mem_singleton.2 rfl) h1 hj k
   ·exact Aoz hw (by rw[Rb];rfl) hj k
end Go.Ev

namespace Go.Ev
open Go.Proofs
set_option maxRecDepth 100000
noncomputable def Aqp:Nat->Option FT:=fun f=>Ao (Nat.beq f 91) (some Ast) (Aoy f)
theorem Azw:∀ g F,Aqp g=some F->Aao TP g F:=Ag5 Aw7 A2k
theorem Ahp:Au Aqp:=by
 refine⟨fun g h=>?_,by kernel_rfl⟩
 obtain⟨h0,h'⟩:=Ak8 h
 unfold Aqp
 rw[h0,Aw]
 exact An2.plain g h
theorem A2i {K d:Nat}(h:Aa):Af TT Aqp K (d+1) false 23 [] h=some (.bool true,h):=by
 rw[Abz (show Aqp 23=some Azm by kernel_rfl)];rfl
theorem Aq1(D Z S B P O:Int)(v1 v2:Value)(n:Int)(w:World){L1:List Int}(R1:A4g w v1 L1)(q1:∀ x ∈ L1,-9223372036854775808<=x/\x<=9223372036854775807){L2:List F6}(R2:A5c w v2 L2)(q2:∀ e ∈ L2,e.Wf):
 Calls Tryz.prog 8 #[.agg #[.int .i64 D,.int .i64 Z,.int .i64 S,.int .i64 B,.int .i64 P,.int .i64 O],v1,v2,.int .i64 n] w fun e w'=>e=.returned (.bool true)/\RowKit.Below w.heap.size w w':=by
 obtain⟨h,f,zv,kv,zb,kb,se,e1,e3,o1,o3,l1,l3,r1,r3⟩:=A5f R1 R2 q2
 obtain⟨v,h',e,rfl,same⟩:=Ays (K:=many) Ahp (by kernel_rfl) (by unfold many;decide) (d:=30) (by omega) (fun h=>A2i h) ⟨D,Z,S,B,P,O⟩ n se.hb (zv:=zv) (ev:=kv) (zb:=zb) (eb:=kb) r1 r3 (by rw[se.next];exact l1) (by rw[se.next];exact l3) q1
 rw[<-Q7 Ahp (by decide)]at e
 refine Asd se (args:=[gV ⟨D,Z,S,B,P,O⟩,zv,kv,I n]) (vs:=[.agg #[.int .i64 D,.int .i64 Z,.int .i64 S,.int .i64 B,.int .i64 P,.int .i64 O],v1,v2,.int .i64 n]) ?_ ?_ (fun _=>rfl) ((Af1 Aqr Azw many 31).1 8 _ _ _ _ e) (fun i hi=>same i (by rw[se.next];exact hi))
 ·rw[<-e1,<-e3];rfl
 ·exact⟨by simp[EV.Nu,EV.ok,gV,gL,I,EV.one],o1,o3,trivial,trivial⟩
end Go.Ev
