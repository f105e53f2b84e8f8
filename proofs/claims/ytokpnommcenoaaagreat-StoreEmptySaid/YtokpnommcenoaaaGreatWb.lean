import Derived.Test.YtokpnommcenoaaaGreatWa
import Derived.WalkKit
import Derived.ProofKit
import Derived.OpenShut
import Derived.Carry
import Derived.Deep.Slices
import Derived.Deep.Fields
set_option linter.unusedVariables false
set_option linter.unusedSimpArgs false
set_option linter.unusedSectionVars false
namespace Go.Ev
end Go.Ev

namespace Go.Ev
set_option maxRecDepth 100000
structure Amn(ws:List (Nat × List EV))(arr:Array Value):Prop where
 all:∀ x ∈ ws,∃ L:List Int,x.2=L.map I/\∀ (j:Nat) (a:Int),L[j]? = some a->arr[x.1+j]? = some (.int .i64 a)
noncomputable def Ab0(o0 o1:Option A9):Ac:=⟨(Tr.put .nil 0 o0).put 1 o1,2,2⟩
theorem Zw(o0 o1:Option A9)(i:Nat):(Ab0 o0 o1).get i=if i=1 then o1 else if i=0 then o0 else none:=by
 show ((Tr.put .nil 0 o0).put 1 o1).get i=_
 rw[Tr.get_put,Tr.get_put]
 by_cases h1:i=1
 ·rw[if_pos h1.symm,if_pos h1]
 ·rw[if_neg (fun y=>h1 y.symm),if_neg h1]
  by_cases h0:i=0
  ·rw[if_pos h0.symm,if_pos h0]
  ·rw[if_neg (fun y=>h0 y.symm),if_neg h0];rfl
def Aei(w:World)(b:Nat)(o:A9):Prop:=∃ ws arr e fr,o=.view ws (.cells arr e fr)/\w.heap[b]? = some (.cells arr e fr)/\Amn ws arr
structure Au4(w:World)(h:Ac)(f:Loc):Prop where
 Lj:Gr (fun i=>i<2) h
 rep:Gz f h w
 hb:HB h
 next:h.next=2
 view:∀ i o,h.get i=some o->∃ ws r,o=.view ws r
theorem As9 {w:World}{o0 o1:Option A9}{b0 b1:Nat}(h0:∀ o,o0=some o->Aei w b0 o)(h1:∀ o,o1=some o->Aei w b1 o)(ne:∀ o o',o0=some o->o1=some o'->b0 ≠ b1):
 Au4 w (Ab0 o0 o1) ⟨fun i=>if i=1 then b1 else b0,fun _=>0⟩:=by
 have cs:∀ i o,(Ab0 o0 o1).get i=some o->(i=1/\o1=some o)\/(i=0/\o0=some o):=fun i o e=>by
  rw[Zw]at e
  split at e
  ·rename_i y;exact .inl ⟨y,e⟩
  ·split at e
   ·rename_i y;exact .inr ⟨y,e⟩
   ·cases e
 have vo:∀ i o,(Ab0 o0 o1).get i=some o->Aei w (if i=1 then b1 else b0) o:=fun i o e=>by
  rcases cs i o e with ⟨rfl,y⟩|⟨rfl,y⟩
  ·exact h1 o y
  ·exact h0 o y
 refine⟨⟨fun i hi=>hi,fun i o e=>?_⟩,⟨fun i o e=>?_,fun i j o o' e e' y=>?_⟩,fun q o e=>?_,rfl,fun i o e=>?_⟩
 ·refine⟨by rcases cs i o e with ⟨rfl,_⟩|⟨rfl,_⟩ <;> omega,?_⟩
  obtain⟨ws,arr,t,fr,rfl,_,W⟩:=vo i o e
  intro x hx
  obtain⟨L,hl,_⟩:=W.all x hx
  rw[hl]
  constructor
  ·rw[C6];intro v hv;obtain⟨a,_,rfl⟩:=List.mem_map.1 hv;trivial
  ·rw[List.all_eq_true];intro v hv;obtain⟨a,_,rfl⟩:=List.mem_map.1 hv;rfl
 ·obtain⟨ws,arr,t,fr,rfl,g,W⟩:=vo i o e
  refine⟨_,g,rfl,arr,t,fr,rfl,fun x hx j v hj=>?_⟩
  obtain⟨L,hl,hL⟩:=W.all x hx
  rw[hl,List.getElem?_map]at hj
  cases hx':L[j]? with
  | none=>rw[hx']at hj;cases hj
  | some a=>rw[hx']at hj;cases hj;exact hL j a hx'
 ·have y:(if i=1 then b1 else b0)=(if j=1 then b1 else b0):=y
  rcases cs i o e with ⟨rfl,a⟩|⟨rfl,a⟩ <;> rcases cs j o' e' with ⟨rfl,b⟩|⟨rfl,b⟩
  ·rfl
  ·rw[if_pos rfl,if_neg (by omega)]at y;exact absurd y.symm (ne _ _ b a)
  ·rw[if_neg (by omega),if_pos rfl]at y;exact absurd y (ne _ _ a b)
  ·rfl
 ·rcases cs q o e with ⟨rfl,_⟩|⟨rfl,_⟩
  ·show 1<2;omega
  ·show 0<2;omega
 ·obtain⟨ws,arr,t,fr,rfl,_⟩:=vo i o e
  exact⟨_,_,rfl⟩
theorem Aep {P:Program}{g:Nat}{w:World}{h:Ac}{f:Loc}(l:Au4 w h f){args:List EV}{vs:List Value}(ha:Av f args=vs)(ho:EV.Gx (fun i=>i<2) args){v:EV}{V:Value}(hv:∀ f,Be f v=V){h':Ac}
 (G:Good P g args h v h') (same:∀ i,i<2->h'.get i=h.get i):Calls P g vs.toArray w fun e w'=>e=.returned V/\RowKit.Below w.heap.size w w':=by
 intro cs
 obtain⟨fr,f',w',hs,hfr,hl,hm,hwf,hvo⟩:=G.run _ f w l.Lj l.rep ho cs
 rw[ha]at hs
 rw[hv]at hl
 refine⟨.returned V,w',fr,⟨rfl,hm.os,hm.tape,hm.output,hm.size,fun k hk=>?_⟩,hs,hfr,hl⟩
 by_cases hx:∃ i o,h.get i=some o/\f.b i=k
 ·obtain⟨i,o,hi,rfl⟩:=hx
  have li:=(l.Lj.get i o hi).1
  obtain⟨ws,r,rfl⟩:=l.view i o hi
  obtain⟨r1,e1,q1,_⟩:=l.rep.obj i _ hi
  have hi':h'.get i=some (.view ws r):=by rw[same i li];exact hi
  obtain⟨r2,e2,q2,_⟩:=hm.rep.obj i _ hi'
  rw[<-(hm.agree i li).1]at e2
  rw[e2,e1,q1,q2]
 ·exact hm.kept k hk fun i o hi e=>hx ⟨i,o,hi,e⟩
end Go.Ev

namespace Go.Ev
open Go.ChangeShapes Go.WideShapes Go.ChangeAt Go.RowKit Go.Deep
set_option maxRecDepth 100000
theorem Avd {P:Program}{w:World}{base:Nat}{t e:TypeId}{v:Value}(ht:P.underlying t=some (.slice e))(h:Value.okWide P w .any base t v):v=.slice none 0 0\/∃ a len cap,v=.slice (some a) len cap/\a.spot=none/\∃ row cells,w.shape? a.block=some (row,cells):=by
 unfold Value.okWide at h
 rw[ht]at h
 simp only at h
 unfold Cell.okWide at h
 rw[ht]at h
 simp only at h
 unfold Cell.ok at h
 rw[ht]at h
 split at h <;> first|(rename_i e;cases e;done)|skip
 all_goals first|exact .inl rfl|skip
 all_goals first|(exact h.elim)|skip
 ·rename_i e
  cases e
  exact .inr ⟨_,_,_,rfl,h.2.2.2.1,by obtain⟨row,cells,hs,_⟩:=h.2.2.2.2;exact⟨row,cells,hs⟩⟩
end Go.Ev

namespace Go.Ev
open Go.ChangeShapes Go.WideShapes Go.ChangeAt Go.RowKit Go.Deep
set_option maxRecDepth 100000
def Aty(w:World)(v:Value)(L:List (List Int)):Prop:=(v=.slice none 0 0/\L = [])\/∃ b off cap arr e fr,v=.slice (some ⟨b,off,none⟩) L.length cap/\w.heap[b]? = some (.cells arr e fr)/\∀ (j:Nat) (x:Int),L.flatten[j]? = some x->arr[off+j]? = some (.int .i64 x)
structure Sj(h:Ac)(v:EV)(b n:Nat)(L:List (List Int)):Prop where
 row:(v=.Ab/\L = [])\/∃ off r op,v=.slice b off L.length r op/\∀ j (hj:j<L.length) (k:EV->R),E2 n (.ptr b (off+j*n)) h k=k (.agg (L[j].map I))
theorem Sj.frame {h h':Ac}{v:EV}{b n:Nat}{l:List (List Int)}(r:Sj h v b n l)(e:h'.get b=h.get b):Sj h' v b n l:=by
 refine⟨?_⟩
 rcases r.row with y|⟨off,r',op,rfl,y⟩
 ·exact .inl y
 ·refine .inr ⟨off,r',op,rfl,fun j hj k=>?_⟩
  have:=y j hj k
  show oB _ (Rs (h'.get b) _ n)=_
  rw[e];exact this
theorem Sj.J0 {h:Ac}{v:EV}{b n:Nat}{l:List (List Int)}(r:Sj h v b n l)(k:EV->R):Ev.J0 v k=k (I l.length):=by
 rcases r.row with ⟨rfl,rfl⟩|⟨off,r',op,rfl,_⟩ <;> rfl
theorem Sj.at {h:Ac}{v:EV}{b n:Nat}{l:List (List Int)}(r:Sj h v b n l){j:Nat}(hj:j<l.length)(k:EV->R):M7 n v (I j) (fun p=>E2 n p h k)=k (.agg (l[j].map I)):=by
 rcases r.row with ⟨rfl,rfl⟩|⟨off,r',op,rfl,y⟩
 ·exact absurd hj (Nat.not_lt_zero _)
 ·unfold I at y ⊢;rw[Aeg hj];exact y j hj k
theorem Ag0 {n:Nat}:∀ (L:List (List Int)),(∀ l ∈ L,l.length=n)->L.flatten.length=L.length*n
 | [],_=>by simp
 | a::r,h=>by rw[List.flatten_cons,List.length_append,h a (List.mem_cons_self ..),Ag0 r fun x hx=>h x (List.mem_cons_of_mem _ hx),List.length_cons,Nat.succ_mul];omega
theorem Xs {n:Nat}:∀ (L:List (List Int)),(∀ l ∈ L,l.length=n)->∀ (i r:Nat) (hi:i<L.length),r<n->L.flatten[i*n+r]? = L[i][r]?
 | a::R,h,0,r,_,hr=>by
  rw[Nat.zero_mul,Nat.zero_add,List.flatten_cons,List.getElem?_append_left (by rw[h a (List.mem_cons_self ..)];exact hr)];rfl
 | a::R,h,i+1,r,hi,hr=>by
  have ha:=h a (List.mem_cons_self ..)
  rw[List.flatten_cons,List.getElem?_append_right (by rw[ha,Nat.succ_mul];omega),ha,show (i+1)*n+r-n=i*n+r by rw[Nat.succ_mul];omega]
  exact Xs R (fun x hx=>h x (List.mem_cons_of_mem _ hx)) i r (by simpa using hi) hr
theorem Aib {n:Nat}{L:List (List Int)}(h:∀ l ∈ L,l.length=n){i:Nat}(hi:i<L.length):Oj (L.flatten.map I) (i*n) n=some (L[i].map I):=by
 have hl:=Ag0 L h
 have hin:i*n+n<=L.flatten.length:=by rw[hl];have:=Nat.mul_le_mul_right n (show i+1<=L.length from hi);rw[Nat.succ_mul]at this;exact this
 rw[Uw (by rw[List.length_map];exact hin),<-List.map_drop,<-List.map_take]
 congr 2
 apply List.ext_getElem?
 intro r
 by_cases hr:r<n
 ·rw[List.getElem?_take,if_pos hr,List.getElem?_drop,Xs L h i r hi hr]
 ·rw[List.getElem?_take,if_neg hr,List.getElem?_eq_none (by rw[h _ (List.getElem_mem hi)];omega)]
theorem Aup {w:World}{v:Value}{n:Nat}{L:List (List Int)}(R:Aty w v L)(hn0:0<n)(hn:∀ l ∈ L,l.length=n):∃ (h:Ac) (f:Loc) (zv:EV) (zb:Nat),Au4 w h f/\Be f zv=v/\zv.ok (fun i=>i<2)/\zb<2/\Sj h zv zb n L:=by
 rcases R with ⟨rfl,rfl⟩|⟨b,o,c,a,e,fr,rfl,g,h1⟩
 ·exact⟨_,_,.Ab,0,As9 (w:=w) (o0:=none) (o1:=none) (b0:=0) (b1:=1) (fun _ y=>by cases y) (fun _ y=>by cases y) (fun _ _ y=>by cases y),rfl,trivial,by omega,⟨.inl ⟨rfl,rfl⟩⟩⟩
 ·have W:Amn [(o,L.flatten.map I)] a:=⟨fun x hx=>by rw[List.mem_singleton.1 hx];exact⟨L.flatten,rfl,h1⟩⟩
  refine⟨_,_,.slice 0 o L.length c false,0,As9 (w:=w) (o0:=some (.view [(o,L.flatten.map I)] (.cells a e fr))) (o1:=none) (b0:=b) (b1:=0) (fun _ y=>by cases y;exact⟨_,_,_,_,rfl,g,W⟩) (fun _ y=>by cases y) (fun _ _ _ y=>by cases y),rfl,(by show 0<2;omega),by omega,⟨.inr ⟨o,c,false,rfl,fun j hj k=>?_⟩⟩⟩
  have hg:(Ab0 (some (A9.view [(o,L.flatten.map I)] (.cells a e fr))) none).get 0=some (.view [(o,L.flatten.map I)] (.cells a e fr)):=by rw[Zw];rfl
  have hl:=Ag0 L hn
  show oB _ (Rs (Ac.get _ 0) (o+j*n) n)=_
  rw[hg]
  have hin:j*n<L.flatten.length:=by rw[hl];exact Nat.mul_lt_mul_of_pos_right hj (by omega)
  have hwin:Pj [(o,L.flatten.map I)] (o+j*n)=some (o,L.flatten.map I):=by
   unfold Pj
   rw[Nat.ble_eq_true_of_le (show o<=o+j*n by omega),Ak,show Nat.ble (Nat.succ (Nat.sub (o+j*n) o)) (len (L.flatten.map I))=true from Nat.ble_eq_true_of_le (by rw[J9,List.length_map];show o+j*n-o+1<=_;omega),Ak]
  show oB _ (match Pj [(o,L.flatten.map I)] (o+j*n) with|some (o',l)=>Oj l (Nat.sub (o+j*n) o') n|none=>none)=_
  rw[hwin]
  show oB _ (Oj (L.flatten.map I) (Nat.sub (o+j*n) o) n)=_
  rw[show Nat.sub (o+j*n) o=j*n by show o+j*n-o=_;omega,Aib hn hj]
  rfl
section
variable {P:Program}{W:World}{H:Type}{enc:TypeId × Value->H}{base b2:Nat}{sp:Nat->Bool}{hd:Bool}
theorem Ahc {cs:List Value}{i:Nat}{v:Value}(h:(cs.drop i).take 1 = [v]):cs[i]? = some v:=by
 cases hd:cs.drop i with
 | nil=>rw[hd]at h;cases h
 | cons a r=>
  rw[hd]at h
  have e:(cs.drop i)[0]? = some a:=by rw[hd];rfl
  rw[List.getElem?_drop,Nat.add_zero]at e
  rw[e]
  simp only[List.take_succ_cons,List.take_zero,List.cons.injEq,and_true]at h
  rw[h]
theorem Al3 {t e ti:TypeId}{fs:Array Field}{v:Value}{d:DataW H}{p:List MemPlace}(ht:P.underlying t=some (.slice e))(he:P.underlying e=some (.struct fs))(hi:P.underlying ti=some (.int .i64))(hc:P.cellsOf ti=1)(hce:P.cellsOf e=fs.size)
 (hf:∀ (i:Nat) (f:Field),fs[i]? = some f->f.offset=i/\f.type=ti) (ho:Value.okWide P W .any base t v) (h:DataW.Trod enc P W b2 sp hd t v d p) :
 ∃ L:List (List Int),Aty W v L/\∀ l ∈ L,l.length=fs.size/\∀ x ∈ l,-9223372036854775808<=x/\x<=9223372036854775807:=by
 rcases Avd ht ho with rfl|⟨⟨b,off,spot⟩,len,cap,rfl,hspot,row,cells,hshape⟩
 ·exact⟨[],.inl ⟨rfl,rfl⟩,fun x hx=>by cases hx⟩
 ·obtain⟨fuel,hf'⟩:=h
  simp only at hspot
  subst hspot
  rcases open_slice ht hf' with ⟨hx,_⟩|⟨a,len',cap',m,n,D,Pl,hx,hb,hl,hm,hmm,_,hi'⟩
  ·cases hx
  ·cases hx
   unfold World.shape? at hshape
   split at hshape
   ·rename_i arr e' fr hw
    have hlm:len<=m:=by rw[hmm];split <;> omega
    have one:∀ i r,i<len->r<fs.size->∃ x:Int,arr[off+(i*fs.size+r)]? = some (.int .i64 x)/\-9223372036854775808<=x/\x<=9223372036854775807:=by
     intro i r hil hr
     obtain⟨cs',h1,h2⟩:=hi' i (by omega)
     rw[hce]at h1
     obtain⟨xs,k,_,_,hlen,hxl,hg⟩:=DataW.trod_struct he h2
     obtain⟨f1,f2⟩:=hf r fs[r] (Array.getElem?_eq_getElem hr)
     have g:=hg r fs[r] (Array.getElem?_eq_getElem hr)
     rw[f1,f2,hc,List.getElem?_eq_getElem (by omega)]at g
     obtain⟨x,ex,_,wf⟩:=DataW.trod_int hi g
     have e1:=Ahc ex
     obtain⟨_,_,hcl⟩:=World.cells?_some h1
     have:=hcl r hr
     rw[e1,Addr.add_lit,Addr.add_lit]at this
     simp only[World.cell?,hw]at this
     have wf:(decide (IntKind.i64.min<=x) && decide (x<=IntKind.i64.max))=true:=wf
     rw[Bool.and_eq_true,decide_eq_true_eq,decide_eq_true_eq]at wf
     exact⟨x,by rw[<-Nat.add_assoc];exact this,wf⟩
    have each:∀ i r,∃ x:Int,(i<len->r<fs.size->arr[off+(i*fs.size+r)]? = some (.int .i64 x))/\-9223372036854775808<=x/\x<=9223372036854775807:=by
     intro i r
     by_cases hh:i<len/\r<fs.size
     ·obtain⟨x,a,b⟩:=one i r hh.1 hh.2;exact⟨x,fun _ _=>a,b⟩
     ·exact⟨0,fun y z=>absurd ⟨y,z⟩ hh,by omega,by omega⟩
    have F:∀ i r,{ x:Int // (i<len->r<fs.size->arr[off+(i*fs.size+r)]? = some (.int .i64 x))/\-9223372036854775808<=x/\x<=9223372036854775807 }:=fun i r=>⟨Classical.choose (each i r),Classical.choose_spec (each i r)⟩
    have hl4:∀ l ∈ (List.range len).map fun i=>(List.range fs.size).map fun r=>(F i r).1,l.length=fs.size:=fun l hl=>by obtain⟨i,_,rfl⟩:=List.mem_map.1 hl;simp
    have hll:((List.range len).map fun i=>(List.range fs.size).map fun r=>(F i r).1).length=len:=by simp
    refine⟨(List.range len).map fun i=>(List.range fs.size).map fun r=>(F i r).1,.inr ⟨b,off,cap,arr,e',fr,by rw[hll],hw,fun j x hj=>?_⟩,fun l hl=>⟨hl4 l hl,fun x hx=>?_⟩⟩
    ·have hjl:=(List.getElem?_eq_some_iff.1 hj).1
     rw[Ag0 _ hl4,hll]at hjl
     have hpos:0<fs.size:=Nat.pos_of_ne_zero fun y=>by rw[y]at hjl;omega
     have hil:j / fs.size<len:=Nat.div_lt_of_lt_mul (by rw[Nat.mul_comm];exact hjl)
     have e1:j=j / fs.size*fs.size+j % fs.size:=by have:=Nat.div_add_mod j fs.size;rw[Nat.mul_comm]at this;omega
     have hr:j % fs.size<fs.size:=Nat.mod_lt _ hpos
     rw[e1,Xs _ hl4 _ _ (by rw[hll];exact hil) hr,List.getElem_map,List.getElem_range,List.getElem?_map,List.getElem?_range hr]at hj
     cases hj
     have key:∀ (x:Int) (i:Nat),i=j->arr[off+i]? = some (.int .i64 x)->arr[off+j]? = some (.int .i64 x):=fun x i e h=>by subst e;exact h
     exact key _ _ e1.symm ((F (j / fs.size) (j % fs.size)).2.1 hil hr)
    ·obtain⟨i,_,rfl⟩:=List.mem_map.1 hl
     obtain⟨r,_,rfl⟩:=List.mem_map.1 hx
     exact(F i r).2.2
   ·cases hshape
end
end Go.Ev
