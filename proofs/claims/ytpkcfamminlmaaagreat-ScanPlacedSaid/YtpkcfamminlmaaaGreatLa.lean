import Derived.Test.YtpkcfamminlmaaaGreatXb
import Derived.WalkKit
import Derived.ProofKit
import Derived.OpenShut
import Derived.Carry
import Derived.Deep.Slices
import Derived.Deep.Fields
import Derived.Test.YtpkcfamminlmaaaGreatPb
import Derived.Test.YtpkcfamminlmaaaGreatAnchor
set_option linter.unusedVariables false
set_option linter.unusedSimpArgs false
set_option linter.unusedSectionVars false
namespace Go.Ev
set_option maxRecDepth 100000
def Bbg(w:World)(v:Value)(L:List Int):Prop:=(v=.slice none 0 0/\L = [])\/∃ b off cap arr e fr,v=.slice (some ⟨b,off,none⟩) L.length cap/\w.heap[b]? = some (.cells arr e fr)/\∀ (j:Nat) (x:Int),L[j]? = some x->arr[off+j]? = some (.int .i64 x)
structure Au1(ws:List (Nat × List EV))(arr:Array Value):Prop where
 all:∀ x ∈ ws,∃ L:List Int,x.2=L.map I/\∀ (j:Nat) (a:Int),L[j]? = some a->arr[x.1+j]? = some (.int .i64 a)
theorem A6y {ws:List (Nat × List EV)}{off o:Nat}{l:List EV}(hm:(o,l) ∈ ws)(h1:o<=off)(h2:off-o<l.length):∃ o' l',Aeq ws off=some (o',l')/\(o',l') ∈ ws/\o'<=off/\off-o'<l'.length:=by
 induction ws with
 | nil=>cases hm
 | cons x r ih=>
  obtain⟨o',l'⟩:=x
  unfold Aeq
  by_cases c:o'<=off/\off-o'<l'.length
  ·refine⟨o',l',?_,List.mem_cons_self ..,c.1,c.2⟩
   rw[Nat.ble_eq_true_of_le c.1,An,show Nat.ble (Nat.succ (Nat.sub off o')) (len l')=true from Nat.ble_eq_true_of_le (by rw[Qg];exact c.2),An]
  ·have hf:Ay (Nat.ble o' off) (Nat.ble (Nat.succ (Nat.sub off o')) (len l')) false=false:=by
    cases hb:Nat.ble o' off with
    | false=>rfl
    | true=>
     rw[An]
     cases hc:Nat.ble (Nat.succ (Nat.sub off o')) (len l') with
     | false=>rfl
     | true=>
      have y:=Nat.le_of_ble_eq_true hc
      rw[Qg]at y
      exact absurd ⟨Nat.le_of_ble_eq_true hb,y⟩ c
   rw[hf,A6]
   rcases List.mem_cons.1 hm with y|y
   ·cases y;exact absurd ⟨h1,h2⟩ c
   ·obtain⟨o2,l2,e1,e2,e3⟩:=ih y
    exact⟨o2,l2,e1,List.mem_cons_of_mem _ e2,e3⟩
theorem Agg {ws:List (Nat × List EV)}{arr:Array Value}{r:Obj}(W:Au1 ws arr){h:Aa}{q:Nat}(hg:h.get q=some (.view ws r)){off:Nat}{L:List Int}(hm:(off,L.map I) ∈ ws)(hL:∀ (j:Nat) (a:Int),L[j]? = some a->arr[off+j]? = some (.int .i64 a))
 {j:Nat} (hj:j<L.length) (k:EV->R):Av (.ptr q (off+j)) h k=k (I L[j]):=by
 obtain⟨o,l,e1,e2,e3,e4⟩:=A6y (off:=off+j) hm (by omega) (by rw[List.length_map];omega)
 obtain⟨L',hl,hL'⟩:=W.all _ e2
 simp only at hl hL'
 subst hl
 rw[List.length_map]at e4
 have a1:=hL j L[j] (List.getElem?_eq_getElem hj)
 have a2:=hL' (off+j-o) L'[off+j-o] (List.getElem?_eq_getElem e4)
 rw[show o+(off+j-o)=off+j by omega,a1]at a2
 have hv:L'[off+j-o]=L[j]:=by have y:=Option.some.inj a2;injection y with _ y;exact y.symm
 show oB _ (Ahf (h.get q) (off+j) 1)=_
 rw[hg]
 show oB _ (match Aeq ws (off+j) with|some (o,l)=>Nf l (Nat.sub (off+j) o) 1|none=>none)=_
 rw[e1]
 have hc:Nf (L'.map I) (Nat.sub (off+j) o) 1=some [I L[j]]:=by
  rw[Hx (by rw[List.length_map];show off+j-o+1<=_;omega)]
  congr 1
  show ((L'.map I).drop (off+j-o)).take 1=_
  rw[List.drop_eq_getElem_cons (by rw[List.length_map];exact e4),List.getElem_map,hv]
  rfl
 show oB _ (Nf (L'.map I) (Nat.sub (off+j) o) 1)=_
 rw[hc];rfl
noncomputable def A1j(o0 o1:Option C7):Aa:=⟨(Tr.put .nil 0 o0).put 1 o1,2,2⟩
theorem Tw(o0 o1:Option C7)(i:Nat):(A1j o0 o1).get i=if i=1 then o1 else if i=0 then o0 else none:=by
 show ((Tr.put .nil 0 o0).put 1 o1).get i=_
 rw[Tr.get_put,Tr.get_put]
 by_cases h1:i=1
 ·rw[if_pos h1.symm,if_pos h1]
 ·rw[if_neg (fun y=>h1 y.symm),if_neg h1]
  by_cases h0:i=0
  ·rw[if_pos h0.symm,if_pos h0]
  ·rw[if_neg (fun y=>h0 y.symm),if_neg h0];rfl
def Ay7(w:World)(b:Nat)(o:C7):Prop:=∃ ws arr e fr,o=.view ws (.cells arr e fr)/\w.heap[b]? = some (.cells arr e fr)/\Au1 ws arr
structure Bhk(w:World)(h:Aa)(f:Loc):Prop where
 hok:Pj (fun i=>i<2) h
 rep:Pa f h w
 hb:HB h
 next:h.next=2
 view:∀ i o,h.get i=some o->∃ ws r,o=.view ws r
theorem Awm {w:World}{o0 o1:Option C7}{b0 b1:Nat}(h0:∀ o,o0=some o->Ay7 w b0 o)(h1:∀ o,o1=some o->Ay7 w b1 o)(ne:∀ o o',o0=some o->o1=some o'->b0 ≠ b1):
 Bhk w (A1j o0 o1) ⟨fun i=>if i=1 then b1 else b0,fun _=>0⟩:=by
 have cs:∀ i o,(A1j o0 o1).get i=some o->(i=1/\o1=some o)\/(i=0/\o0=some o):=fun i o e=>by
  rw[Tw]at e
  split at e
  ·rename_i y;exact .inl ⟨y,e⟩
  ·split at e
   ·rename_i y;exact .inr ⟨y,e⟩
   ·cases e
 have vo:∀ i o,(A1j o0 o1).get i=some o->Ay7 w (if i=1 then b1 else b0) o:=fun i o e=>by
  rcases cs i o e with ⟨rfl,y⟩|⟨rfl,y⟩
  ·exact h1 o y
  ·exact h0 o y
 refine⟨⟨fun i hi=>hi,fun i o e=>?_⟩,⟨fun i o e=>?_,fun i j o o' e e' y=>?_⟩,fun q o e=>?_,rfl,fun i o e=>?_⟩
 ·refine⟨by rcases cs i o e with ⟨rfl,_⟩|⟨rfl,_⟩ <;> omega,?_⟩
  obtain⟨ws,arr,t,fr,rfl,_,W⟩:=vo i o e
  intro x hx
  obtain⟨L,hl,_⟩:=W.all x hx
  rw[hl]
  constructor
  ·rw[H3];intro v hv;obtain⟨a,_,rfl⟩:=List.mem_map.1 hv;trivial
  ·rw[List.all_eq_true];intro v hv;obtain⟨a,_,rfl⟩:=List.mem_map.1 hv;rfl
 ·obtain⟨ws,arr,t,fr,rfl,g,W⟩:=vo i o e
  refine⟨_,g,rfl,arr,t,fr,rfl,fun x hx j v hj=>?_⟩
  obtain⟨L,hl,hL⟩:=W.all x hx
  rw[hl,List.getElem?_map]at hj
  cases hx':L[j]? with
  | none=>rw[hx']at hj;cases hj
  | some a=>rw[hx']at hj;cases hj;exact hL j a hx'
 ·have y:(if i=1 then b1 else b0)=(if j=1 then b1 else b0):=y
  rcases cs i o e with ⟨rfl,a⟩|⟨rfl,a⟩ <;> rcases cs j o' e' with ⟨rfl,b⟩|⟨rfl,b⟩
  ·rfl
  ·rw[if_pos rfl,if_neg (by omega)]at y;exact absurd y.symm (ne _ _ b a)
  ·rw[if_neg (by omega),if_pos rfl]at y;exact absurd y (ne _ _ a b)
  ·rfl
 ·rcases cs q o e with ⟨rfl,_⟩|⟨rfl,_⟩
  ·show 1<2;omega
  ·show 0<2;omega
 ·obtain⟨ws,arr,t,fr,rfl,_⟩:=vo i o e
  exact⟨_,_,rfl⟩
theorem Ay1 {P:Program}{g:Nat}{w:World}{h:Aa}{f:Loc}(l:Bhk w h f){args:List EV}{vs:List Value}(ha:Bn f args=vs)(ho:EV.O9 (fun i=>i<2) args){v:EV}{V:Value}(hv:∀ f,B9 f v=V){h':Aa}
 (G:Good P g args h v h') (same:∀ i,i<2->h'.get i=h.get i):Calls P g vs.toArray w fun e w'=>e=.returned V/\RowKit.Below w.heap.size w w':=by
 intro cs
 obtain⟨fr,f',w',hs,hfr,hl,hm,Xq,hvo⟩:=G.run _ f w l.hok l.rep ho cs
 rw[ha]at hs
 rw[hv]at hl
 refine⟨.returned V,w',fr,⟨rfl,hm.os,hm.tape,hm.output,hm.size,fun k hk=>?_⟩,hs,hfr,hl⟩
 by_cases hx:∃ i o,h.get i=some o/\f.b i=k
 ·obtain⟨i,o,hi,rfl⟩:=hx
  have li:=(l.hok.get i o hi).1
  obtain⟨ws,r,rfl⟩:=l.view i o hi
  obtain⟨r1,e1,q1,_⟩:=l.rep.obj i _ hi
  have hi':h'.get i=some (.view ws r):=by rw[same i li];exact hi
  obtain⟨r2,e2,q2,_⟩:=hm.rep.obj i _ hi'
  rw[<-(hm.Ex i li).1]at e2
  rw[e2,e1,q1,q2]
 ·exact hm.kept k hk fun i o hi e=>hx ⟨i,o,hi,e⟩
theorem Bmy {w:World}{v1 v2:Value}{L1 L2:List Int}(R1:Bbg w v1 L1)(R2:Bbg w v2 L2):∃ (h:Aa) (f:Loc) (zv kv:EV) (zb kb:Nat),Bhk w h f/\B9 f zv=v1/\B9 f kv=v2/\zv.ok (fun i=>i<2)/\kv.ok (fun i=>i<2)/\zb<2/\kb<2 /\
 ((zv=.Af/\L1 = [])\/∃ off r op,zv=.slice zb off L1.length r op/\∀ j (hj:j<L1.length) (k:EV->R),Av (.ptr zb (off+j)) h k=k (I L1[j])) /\
 ((kv=.Af/\L2 = [])\/∃ off r op,kv=.slice kb off L2.length r op/\∀ j (hj:j<L2.length) (k:EV->R),Av (.ptr kb (off+j)) h k=k (I L2[j])):=by
 have W1:∀ {off:Nat} {L:List Int} {arr:Array Value},(∀ (j:Nat) (x:Int),L[j]? = some x->arr[off+j]? = some (.int .i64 x))->Au1 [(off,L.map I)] arr:=fun {off L arr} h=>⟨fun x hx=>by rw[List.mem_singleton.1 hx];exact⟨L,rfl,h⟩⟩
 rcases R1 with ⟨rfl,rfl⟩|⟨b1,o1,c1,a1,e1,f1,rfl,g1,h1⟩ <;> rcases R2 with ⟨rfl,rfl⟩|⟨b2,o2,c2,a2,e2,f2,rfl,g2,h2⟩
 ·exact⟨_,_,.Af,.Af,0,0,Awm (w:=w) (o0:=none) (o1:=none) (b0:=0) (b1:=1) (fun _ y=>by cases y) (fun _ y=>by cases y) (fun _ _ y=>by cases y),rfl,rfl,trivial,trivial,by omega,by omega,.inl ⟨rfl,rfl⟩,.inl ⟨rfl,rfl⟩⟩
 ·refine⟨_,_,.Af,.slice 0 o2 L2.length c2 false,0,0,Awm (w:=w) (o0:=some (.view [(o2,L2.map I)] (.cells a2 e2 f2))) (o1:=none) (b0:=b2) (b1:=0) (fun _ y=>by cases y;exact⟨_,_,_,_,rfl,g2,W1 h2⟩) (fun _ y=>by cases y) (fun _ _ _ y=>by cases y),rfl,rfl,trivial,(by show 0<2;omega),by omega,by omega,.inl ⟨rfl,rfl⟩,.inr ⟨o2,c2,false,rfl,fun j hj k=>?_⟩⟩
  exact Agg (W1 h2) (by rw[Tw];rfl) (List.mem_singleton.2 rfl) h2 hj k
 ·refine⟨_,_,.slice 0 o1 L1.length c1 false,.Af,0,0,Awm (w:=w) (o0:=some (.view [(o1,L1.map I)] (.cells a1 e1 f1))) (o1:=none) (b0:=b1) (b1:=0) (fun _ y=>by cases y;exact⟨_,_,_,_,rfl,g1,W1 h1⟩) (fun _ y=>by cases y) (fun _ _ _ y=>by cases y),rfl,rfl,(by show 0<2;omega),trivial,by omega,by omega,.inr ⟨o1,c1,false,rfl,fun j hj k=>?_⟩,.inl ⟨rfl,rfl⟩⟩
  exact Agg (W1 h1) (by rw[Tw];rfl) (List.mem_singleton.2 rfl) h1 hj k
 ·by_cases hb:b1=b2
  ·subst hb
   rw[g1]at g2
   cases g2
   have W2:Au1 [(o1,L1.map I),(o2,L2.map I)] a1:=⟨fun x hx=>by
    rcases List.mem_cons.1 hx with y|y
    ·subst y;exact⟨L1,rfl,h1⟩
    ·rw[List.mem_singleton.1 y];exact⟨L2,rfl,h2⟩⟩
   refine⟨_,_,.slice 0 o1 L1.length c1 false,.slice 0 o2 L2.length c2 false,0,0,Awm (w:=w) (o0:=some (.view [(o1,L1.map I),(o2,L2.map I)] (.cells a1 e1 f1))) (o1:=none) (b0:=b1) (b1:=0) (fun _ y=>by cases y;exact⟨_,_,_,_,rfl,g1,W2⟩) (fun _ y=>by cases y) (fun _ _ _ y=>by cases y),rfl,rfl,(by show 0<2;omega),(by show 0<2;omega),by omega,by omega,
    .inr ⟨o1,c1,false,rfl,fun j hj k=>?_⟩,.inr ⟨o2,c2,false,rfl,fun j hj k=>?_⟩⟩
   ·exact Agg W2 (by rw[Tw];rfl) (List.mem_cons_self ..) h1 hj k
   ·exact Agg W2 (by rw[Tw];rfl) (List.mem_cons_of_mem _ (List.mem_singleton.2 rfl)) h2 hj k
  ·refine⟨_,_,.slice 0 o1 L1.length c1 false,.slice 1 o2 L2.length c2 false,0,1,Awm (w:=w) (o0:=some (.view [(o1,L1.map I)] (.cells a1 e1 f1))) (o1:=some (.view [(o2,L2.map I)] (.cells a2 e2 f2))) (b0:=b1) (b1:=b2) (fun _ y=>by cases y;exact⟨_,_,_,_,rfl,g1,W1 h1⟩) (fun _ y=>by cases y;exact⟨_,_,_,_,rfl,g2,W1 h2⟩) (fun _ _ _ _=>hb),rfl,rfl,(by show 0<2;omega),(by show 1<2;omega),by omega,by omega,
    .inr ⟨o1,c1,false,rfl,fun j hj k=>?_⟩,.inr ⟨o2,c2,false,rfl,fun j hj k=>?_⟩⟩
   ·exact Agg (W1 h1) (by rw[Tw];rfl) (List.mem_singleton.2 rfl) h1 hj k
   ·exact Agg (W1 h2) (by rw[Tw];rfl) (List.mem_singleton.2 rfl) h2 hj k
end Go.Ev

namespace Go.Ev
open Go.ChangeShapes Go.WideShapes Go.ChangeAt Go.RowKit Go.Deep
set_option maxRecDepth 100000
theorem Bh8 {P:Program}{w:World}{base:Nat}{t e:TypeId}{v:Value}(ht:P.underlying t=some (.slice e))(h:Value.okWide P w .any base t v):v=.slice none 0 0\/∃ a len cap,v=.slice (some a) len cap/\a.spot=none/\∃ row cells,w.shape? a.block=some (row,cells):=by
 unfold Value.okWide at h
 rw[ht]at h
 simp only at h
 unfold Cell.okWide at h
 rw[ht]at h
 simp only at h
 unfold Cell.ok at h
 rw[ht]at h
 split at h <;> first|(rename_i e;cases e;done)|skip
 all_goals first|exact .inl rfl|skip
 all_goals first|(exact h.elim)|skip
 ·rename_i e
  cases e
  exact .inr ⟨_,_,_,rfl,h.2.2.2.1,by obtain⟨row,cells,hs,_⟩:=h.2.2.2.2;exact⟨row,cells,hs⟩⟩
theorem A8f {P:Program}{W:World}{H:Type}{enc:TypeId × Value->H}{base b2:Nat}{sp:Nat->Bool}{hd:Bool}{t e:TypeId}{v:Value}{d:DataW H}{p:List MemPlace}(ht:P.underlying t=some (.slice e))(he:P.underlying e=some (.int .i64))(hc:P.cellsOf e=1)
 (ho:Value.okWide P W .any base t v) (h:DataW.Trod enc P W b2 sp hd t v d p):∃ L:List Int,Bbg W v L/\∀ x ∈ L,-9223372036854775808<=x/\x<=9223372036854775807:=by
 rcases Bh8 ht ho with rfl|⟨⟨b,off,spot⟩,len,cap,rfl,hspot,row,cells,hshape⟩
 ·exact⟨[],.inl ⟨rfl,rfl⟩,fun x hx=>by cases hx⟩
 ·obtain⟨fuel,hf⟩:=h
  simp only at hspot
  subst hspot
  rcases open_slice1 ht hc hf with ⟨hx,_⟩|⟨a,len',cap',m,n,V,D,Pl,hx,hb,hl,hm,hmm,_,hi⟩
  ·cases hx
  ·cases hx
   unfold World.shape? at hshape
   split at hshape
   ·rename_i arr e' fr hw
    have hlm:len<=m:=by rw[hmm];split <;> omega
    have each:∀ i,∃ x:Int,i<len->arr[off+i]? = some (.int .i64 x)/\-9223372036854775808<=x/\x<=9223372036854775807:=by
     intro i
     by_cases hil:i<len
     ·obtain⟨h1,h2⟩:=hi i (by omega)
      obtain⟨x,e0,_,wf⟩:=DataW.trod_int he h2
      refine⟨x,fun _=>⟨?_,?_⟩⟩
      ·simp only[List.cons.injEq,and_true]at e0
       rw[e0]at h1
       unfold Addr.add at h1
       split at h1
       ·rename_i h0
        simp only[World.cell?,hw]at h1
        subst h0
        simpa using h1
       ·simp only[World.cell?,hw]at h1
        simpa using h1
      ·have wf:(decide (IntKind.i64.min<=x) && decide (x<=IntKind.i64.max))=true:=wf
       rw[Bool.and_eq_true,decide_eq_true_eq,decide_eq_true_eq]at wf
       exact wf
     ·exact⟨0,fun y=>absurd y hil⟩
    have F:∀ i,{ x:Int // i<len->arr[off+i]? = some (.int .i64 x)/\-9223372036854775808<=x/\x<=9223372036854775807 }:=fun i=>⟨Classical.choose (each i),Classical.choose_spec (each i)⟩
    have get:∀ (j:Nat) (x:Int),((List.range len).map fun i=>(F i).1)[j]? = some x->j<len/\x=(F j).1:=fun j x hj=>by
     rw[List.getElem?_map]at hj
     have hjl:j<len:=by
      cases hr:(List.range len)[j]? with
      | none=>rw[hr]at hj;cases hj
      | some k=>have:=(List.getElem?_eq_some_iff.1 hr).1;simpa using this
     rw[List.getElem?_range hjl]at hj
     cases hj
     exact⟨hjl,rfl⟩
    refine⟨(List.range len).map fun i=>(F i).1,.inr ⟨b,off,cap,arr,e',fr,by simp,hw,fun j x hj=>?_⟩,fun x hx=>?_⟩
    ·obtain⟨hjl,rfl⟩:=get j x hj
     exact((F j).2 hjl).1
    ·obtain⟨i,hi',rfl⟩:=List.mem_map.1 hx
     exact((F i).2 (by simpa using hi')).2
   ·cases hshape
end Go.Ev

namespace Go.Ev
open Go.Proofs
set_option maxRecDepth 100000
theorem Avz(D Z S B P O:Int)(v1:Value)(n ep:Int)(w:World){L1:List Int}(R1:Bbg w v1 L1)(q1:∀ x ∈ L1,-9223372036854775808<=x/\x<=9223372036854775807):
 Calls Tryz.prog 9 #[.agg #[.int .i64 D,.int .i64 Z,.int .i64 S,.int .i64 B,.int .i64 P,.int .i64 O],v1,.int .i64 n,.int .i64 ep] w fun e w'=>e=.returned (.bool true)/\RowKit.Below w.heap.size w w':=by
 obtain⟨h,f,zv,kv,zb,kb,se,e1,e3,o1,o3,l1,l3,r1,r3⟩:=Bmy R1 (v2:=.slice none 0 0) (L2:=[]) (.inl ⟨rfl,rfl⟩)
 obtain⟨v,h',e,rfl,same⟩:=Az7 (K:=many) Akt (by unfold many;decide) (d:=30) (by omega) (fun h=>call44 h) ⟨D,Z,S,B,P,O⟩ n ep se.hb (zv:=zv) (zb:=zb) ⟨r1⟩ (by rw[se.next];exact l1) q1
 rw[<-Ve Akt (by decide)]at e
 refine Ay1 se (args:=[gV ⟨D,Z,S,B,P,O⟩,zv,I n,I ep]) (vs:=[.agg #[.int .i64 D,.int .i64 Z,.int .i64 S,.int .i64 B,.int .i64 P,.int .i64 O],v1,.int .i64 n,.int .i64 ep]) ?_ ?_ (fun _=>rfl) ((Ajn Apg A38 many 31).1 9 _ _ _ _ e) (fun i hi=>same i (by rw[se.next];exact hi))
 ·rw[<-e1];rfl
 ·exact⟨by simp[EV.O9,EV.ok,gV,gL,I,EV.one],o1,trivial,trivial,trivial⟩
end Go.Ev
