import Derived.Test.YtokpnommcenoaaaGreatCf
import Derived.Test.YtokpnommcenoaaaGreatWb
set_option linter.all false
namespace Go.Ev
variable {sp:Nat->Bool}{ts:List Ct}{L:List (List Value)}
open Go.Proofs Go.ChangeShapes Go.WideShapes Go.ChangeAt Go.RowKit Go.Deep
set_option maxRecDepth 100000
def Bs5:List Ct:=List.replicate 4 (.int .i64)++List.replicate 64 (.int .u8)
def Bsy:List Ct:=[.int .i64,.int .i64,.int .i64]++Bs5
theorem Bug:ctF TP 8 62=some Bsy:=by kernel_rfl
structure Bkq(N:Nat)(l:List Value)(o:Ag7):Prop where
 cells:l.map evV=o.cells
 ev:o.ev.Wf
 Bdq:∀V∈l,A2a N V
section
variable {W:World}{H:Type}{enc:TypeId × Value->H}{base:Nat}{hd:Bool}
theorem Aqp{d:DataW H}{l:List Value}(h:A46 TP W enc base sp hd ts d l){i:Nat}{k:IntKind}(a:ts[i]? = some (.int k)):∃n,l[i]? = some (.int k n)/\k.min<=n/\n<=k.max:=by
 obtain⟨v,e,t,x,e1,_,e3,e4⟩:=h.2 i _ a;obtain⟨n,b,_,wf⟩:=DataW.trod_int (show TP.underlying t=some (.int k)from e4) e3;cases b;have wf:(decide (k.min<=n)&&decide (n<=k.max))=true:=wf;rw[bL,bM,bM]at wf;exact⟨n,e1,wf⟩
theorem Bjk{d:DataW H}{l:List Value}(h:A46 TP W enc base sp hd ts d l){o:Nat}(f:∀i,i<68->ts[o+i]? = Bs5[i]?):∃e:Lg,e.Wf/\∀i,i<68->∃V,l[o+i]? = some V/\A2a W.heap.size V/\e.cells[i]? = some (evV V):=by
 have num:∀i,i<4->∃n,l[o+i]? = some (.int .i64 n):=fun i a=>by
  obtain⟨n,e,_⟩:=Aqp h (i:=o+i) (k:=.i64) (by rw[f i (by omega)];rcases i with _|_|_|_|i<;>first|rfl|omega);exact⟨n,e⟩
 have pat:∀i,∃b:Nat,b<256/\(i<64->l[o+(4+i)]? = some (.int .u8 (b:Int))):=fun i=>by
  by_cases a:i<64
  ·obtain⟨n,e,g,h2⟩:=Aqp h (i:=o+(4+i)) (k:=.u8) (by
    rw[f (4+i) (by omega)];unfold Bs5;rw[bY (by simp),bT,show 4+i-4=i by omega,List.getElem?_replicate,aQ a])
   have g:(0:Int)<=n:=g;have h2:n<=255:=h2;exact⟨n.toNat,by omega,fun _=>by rw[e];congr 2;omega⟩
  ·exact⟨0,by decide,fun y=>absurd y a⟩
 obtain⟨n0,e0⟩:=num 0 (by omega);obtain⟨j,e1⟩:=num 1 (by omega);obtain⟨m,e2⟩:=num 2 (by omega);obtain⟨n3,e3⟩:=num 3 (by omega);have F:∀i,{ b:Nat // b<256/\(i<64->l[o+(4+i)]? = some (.int .u8 (b:Int))) }:=fun i=>⟨Classical.choose (pat i),Classical.choose_spec (pat i)⟩
 refine⟨⟨n0,j,m,n3,Bk ((List.range 64).map fun i=>(F i).1)⟩,⟨⟨_,fun b hb=>by obtain⟨i,_,rfl⟩:=cY.1 hb;exact(F i).2.1,rfl⟩,by rw[Bg,bZ,eP]⟩,fun i a=>?_⟩;unfold Lg.cells;rcases dL i 4 with y|y
 ·rcases i with _|_|_|_|i
  ·exact⟨_,e0,.num _ _ _,rfl⟩
  ·exact⟨_,e1,.num _ _ _,rfl⟩
  ·exact⟨_,e2,.num _ _ _,rfl⟩
  ·exact⟨_,e3,.num _ _ _,rfl⟩
  ·omega
 ·refine⟨.int .u8 ((F (i-4)).1:Int),?_,.num _ _ _,?_⟩
  ·rw[<-(F (i-4)).2.2 (by omega)];congr 1;omega
  ·rw[bY (by show 4<=i;exact y)]
   show(Bk ((List.range 64).map fun i=>(F i).1))[i-4]? = _;unfold Bk;rw[bA,bA,cQ (by omega)];rfl
theorem Bq3 {d:DataW H}{l:List Value}(h:A46 TP W enc base (fun _=>true) hd Bsy d l):∃o,Bkq W.heap.size l o:=by
 have t:l.length=71:=h.1;obtain⟨j,e0,_⟩:=Aqp h (i:=0) (k:=.i64) rfl;obtain⟨m,e1,_⟩:=Aqp h (i:=1) (k:=.i64) rfl;obtain⟨n,e2,_⟩:=Aqp h (i:=2) (k:=.i64) rfl;obtain⟨ev,f,g⟩:=Bjk h (o:=3) (fun i e=>by
  unfold Bsy;rw[bY (by simp)];congr 1;simp)
 refine⟨⟨j,m,n,ev⟩,?_,f,fun v p=>?_⟩
 ·apply eE
  intro i;unfold Ag7.cells;rw[bA];rcases dL i 3 with y|y
  ·rw[bh (by show i<3;exact y)]
   rcases i with _|_|_|i
   ·rw[e0];rfl
   ·rw[e1];rfl
   ·rw[e2];rfl
   ·omega
  ·rw[bY (by show 3<=i;exact y)]
   rcases dL i 71 with z|z
   ·obtain⟨v,a,b,c⟩:=g (i-3) (by omega)
    rw[show 3+(i-3)=i by omega]at a;rw[a];exact c.symm
   ·rw[cF (by omega),cF (by rw[Lg.Az f];show 68<=i-3;omega)];rfl
 ·obtain⟨i,e⟩:=fF.1 p
  have q:=(bJ.1 e).1;rcases dL i 3 with y|y
  ·rcases i with _|_|_|i
   ·rw[e0]at e;cases e;exact .num _ _ _
   ·rw[e1]at e;cases e;exact .num _ _ _
   ·rw[e2]at e;cases e;exact .num _ _ _
   ·omega
  ·obtain⟨u,a,b,c⟩:=g (i-3) (by omega)
   rw[show 3+(i-3)=i by omega,e]at a;cases a;exact b
end
theorem Bku {N:Nat}:∀{L:List (List Value)},(∀l∈L,∃o,Bkq N l o)->∃os:List Ag7,os.length=L.length/\∀(j:Nat) (l:List Value) (o:Ag7),L[j]? = some l->os[j]? = some o->Bkq N l o
 | [],_=>⟨[],rfl,fun j l o hj=>by cases hj⟩
 | l::L,h=>by
  obtain⟨o,a⟩:=h l (aV ..);obtain⟨os,e,hj⟩:=Bku (L:=L) fun l d=>h l (aT _ d)
  refine⟨o::os,by rw[bK,bK,e],fun j l' o' b h2=>?_⟩;cases j with
  | zero=>cases b;cases h2;exact a
  | succ j=>exact hj j l' o' b h2
theorem Bsh {w:World}{v:Value}(R:Bs4 w v 71 L)(G:∀l∈L,∃o,Bkq w.heap.size l o):∃(h:Ab) (b:Nat) (os:List Ag7),Bk7 w h/\Cp A8q (evV v)=v/\(evV v).ok (fun i=>i<w.heap.size)/\Axz h (evV v) b os/\(0<os.length->b<w.heap.size):=by
 obtain⟨os,el,hj⟩:=Bku G;have mk:∀o∈os,o.ev.Wf:=fun o J=>by
  obtain⟨j,f⟩:=fF.1 J;have M:=(bJ.1 f).1;exact(hj j _ o (aH (by omega)) f).ev
 have no:∀x∈([]:List (Nat × Nat × Nat)),Bti w x:=fun x g=>by cases g
 rcases R with⟨rfl,rfl⟩|⟨b,off,cap,arr,e,fr,rfl,q,m,t⟩
 ·have:os = []:=eB el
  subst this;exact⟨Awz w [],0,[],Ble no,rfl,trivial,⟨.inl ⟨rfl,rfl⟩,mk⟩,fun y=>absurd y (bS _)⟩
 ·have u:∀(j:Nat) (d:j<L.length),(L[j]).length=71/\(L[j]).map evV=(os[j]'(by omega)).cells/\∀V∈L[j],A2a w.heap.size V:=fun j d=>by
   have a:=hj j L[j] (os[j]'(by omega)) (aH d) (aH (by omega));have:=congrArg List.length a.cells;rw[bZ,Ag7.len a.ev]at this;exact⟨this,a.cells,a.Bdq⟩
  have hb:b<w.heap.size:=(cM.1 m).1;have g:Bti w (b,off,L.length*71):=⟨arr,e,fr,m,fun k B=>by
   have B:k<L.length*71:=B;have C:k/71<L.length:=by omega
   obtain⟨D,_,n3⟩:=u _ C;have h2:k%71<(L[k/71]).length:=by omega
   have:=t (k/71) (k%71) C _ (by omega) (aH h2);rw[show k/71*71+k%71=k by omega]at this;exact⟨_,this,n3 _ (av h2)⟩⟩
  have e1:∀c,evV (.slice (some ⟨b,off,none⟩) L.length c)=if c=0 then .odd ⟨b,off,none⟩else .slice b off L.length c false:=fun c=>rfl
  rcases eh cap with E|E
  ·subst E
   have:L = []:=eB (by omega);subst this;have:os = []:=eB el;subst this;exact⟨Awz w [],0,[],Ble no,rfl,trivial,⟨.inl ⟨rfl,rfl⟩,mk⟩,fun y=>absurd y (bS _)⟩
  ·refine⟨Awz w [(b,off,L.length*71)],b,os,Ble fun x p=>?_,?_,?_,⟨.inr ⟨off,cap,false,?_,fun j d k=>?_⟩,mk⟩,fun _=>hb⟩
   ·rw[aP.1 p];exact g
   ·rw[e1,aM (by omega)];rfl
   ·rw[e1,aM (by omega)];exact hb
   ·rw[e1,aM (by omega),el]
   ·obtain⟨D,K,n3⟩:=u j (by omega)
    have:=Bsq (w:=w) (A:=[]) (x:=(b,off,L.length*71)) m (j:=j*71) (n:=71) (by show j*71+71<=L.length*71;omega) (by decide) D (fun r V F=>t j r (by omega) V (by have:=(bJ.1 F).1;omega) F) k;rw[K]at this;exact this
end Go.Ev
