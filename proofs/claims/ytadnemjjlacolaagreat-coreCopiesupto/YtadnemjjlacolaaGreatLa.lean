import Derived.Test.YtadnemjjlacolaaGreatNd
import Derived.Test.YtadnemjjlacolaaGreatWb
set_option linter.all false
namespace Go.Ev
variable {sp:Nat->Bool}{ts:List Ct}{W:World}{L:List (List Value)}
open Go.Proofs Go.ChangeShapes Go.WideShapes Go.ChangeAt Go.RowKit Go.Deep
set_option maxRecDepth 100000
def Bty:List Ct:=List.replicate 4 (.int .i64)++List.replicate 64 (.int .u8)
def Brm:List Ct:=[.int .i64,.int .i64,.int .i64,.row 3]++Bty
theorem Bmi:ctF TP 8 34=some Brm:=by kernel_rfl
structure Avl(W:World)(l:List Value)(o:H0)(ws:List (Nat × Nat × Nat)):Prop where
 cells:l.map evV=o.cells
 win:∀x∈ws,Bny W x
 Qu:∀A,(∀x∈ws,x∈A)->o.At (Ank W A)
 bq:0<o.bs.length->o.bq<W.heap.size
 rx:Rng o.x
 Btu:∀V∈l,A2l W.heap.size V
section
variable{H:Type}{enc:TypeId × Value->H}{base:Nat}{hd:Bool}
theorem Ati{d:DataW H}{l:List Value}(h:A7m TP W enc base sp hd ts d l){i:Nat}{k:IntKind}(a:ts[i]? = some (.int k)):∃n,l[i]? = some (.int k n)/\k.min<=n/\n<=k.max:=by
 obtain⟨v,e,t,x,e1,_,e3,e4⟩:=h.2 i _ a;obtain⟨n,b,_,wf⟩:=DataW.trod_int (show TP.underlying t=some (.int k)from e4) e3;cases b;have wf:(decide (k.min<=n)&&decide (n<=k.max))=true:=wf;rw[aR,aQ,aQ]at wf;exact⟨n,e1,wf⟩
theorem Bkf{d:DataW H}{l:List Value}(h:A7m TP W enc base sp hd ts d l){o:Nat}(f:∀i,i<68->ts[o+i]? = Bty[i]?):∃e:Evt,e.Wf/\∀i,i<68->∃V,l[o+i]? = some V/\A2l W.heap.size V/\e.cells[i]? = some (evV V):=by
 have num:∀i,i<4->∃n,l[o+i]? = some (.int .i64 n):=fun i a=>by
  obtain⟨n,e,_⟩:=Ati h (i:=o+i) (k:=.i64) (by rw[f i (by omega)];rcases i with _|_|_|_|i<;>first|rfl|omega);exact⟨n,e⟩
 have pat:∀i,∃b:Nat,b<256/\(i<64->l[o+(4+i)]? = some (.int .u8 (b:Int))):=fun i=>by
  by_cases a:i<64
  ·obtain⟨n,e,g,h2⟩:=Ati h (i:=o+(4+i)) (k:=.u8) (by
    rw[f (4+i) (by omega)];unfold Bty;rw[bV (by simp),bQ,show 4+i-4=i by omega,List.getElem?_replicate,aG a])
   have g:(0:Int)<=n:=g;have h2:n<=255:=h2;exact⟨n.toNat,by omega,fun _=>by rw[e];congr 2;omega⟩
  ·exact⟨0,by decide,fun y=>absurd y a⟩
 obtain⟨n0,e0⟩:=num 0 (by omega);obtain⟨j,e1⟩:=num 1 (by omega);obtain⟨m,e2⟩:=num 2 (by omega);obtain⟨n3,e3⟩:=num 3 (by omega);have F:∀i,{ b:Nat // b<256/\(i<64->l[o+(4+i)]? = some (.int .u8 (b:Int))) }:=fun i=>⟨Classical.choose (pat i),Classical.choose_spec (pat i)⟩
 refine⟨⟨n0,j,m,n3,Bh ((List.range 64).map fun i=>(F i).1)⟩,⟨⟨_,fun b hb=>by obtain⟨i,_,rfl⟩:=bc.1 hb;exact(F i).2.1,rfl⟩,by rw[Be,bX,eX]⟩,fun i a=>?_⟩;unfold Evt.cells;rcases cZ i 4 with y|y
 ·rcases i with _|_|_|_|i
  ·exact⟨_,e0,.num _ _ _,rfl⟩
  ·exact⟨_,e1,.num _ _ _,rfl⟩
  ·exact⟨_,e2,.num _ _ _,rfl⟩
  ·exact⟨_,e3,.num _ _ _,rfl⟩
  ·omega
 ·refine⟨.int .u8 ((F (i-4)).1:Int),?_,.num _ _ _,?_⟩
  ·rw[<-(F (i-4)).2.2 (by omega)];congr 1;omega
  ·rw[bV (by show 4<=i;exact y)]
   show(Bh ((List.range 64).map fun i=>(F i).1))[i-4]? = _;unfold Bh;rw[bG,bG,cM (by omega)];rfl
theorem Avc {d:DataW H}{l:List Value}(h:A7m TP W enc base (fun _=>true) hd Brm d l):∃o ws,Avl W l o ws/\(o.bs = []\/∃el rs,Sub (DataW.slice el rs) d/\el.length=o.bs.length):=by
 have X:l.length=72:=h.1;obtain⟨C,e0,_⟩:=Ati h (i:=0) (k:=.i64) rfl;obtain⟨D,e1,E,F⟩:=Ati h (i:=1) (k:=.i64) rfl;obtain⟨G,e2,_⟩:=Ati h (i:=2) (k:=.i64) rfl;obtain⟨V,Y,t,x,e3,J,K,M⟩:=h.2 3 _ (show Brm[3]? = some (.row 3)from rfl);obtain⟨bs,q,lb,rg⟩:=Bgx (show TP.underlying t=some (.slice 3)from M) Tryz.underlying3 (by kernel_rfl) K;obtain⟨ev,u,B⟩:=Bkf h (o:=4) (fun i f=>by
  unfold Brm;rw[bV (by simp)];congr 1;simp)
 have gV:=q.Btu;obtain⟨bq,ws,hw,O,hb⟩:∃(bq:Nat) (ws:List (Nat × Nat × Nat)),(∀x∈ws,Bny W x)/\(∀A,(∀x∈ws,x∈A)->A35 (Ank W A) (evV V) bq bs)/\(0<bs.length->bq<W.heap.size):=by
  rcases q with⟨rfl,P⟩|⟨b,off,cap,arr,e,fr,Z,rfl,m,g⟩
  ·exact⟨0,[],fun x g=>(by cases g),fun A _=>⟨.inl ⟨rfl,by rcases P with rfl|⟨a,rfl⟩<;>rfl⟩⟩,fun y=>absurd y (bS _)⟩
  ·refine⟨b,[(b,off,bs.length)],fun x n=>?_,fun A p=>⟨.inr ⟨off,cap,false,?_,fun j hj k=>?_⟩⟩,fun _=>(cP.1 m).1⟩
   ·rw[aO.1 n]
    exact⟨arr,e,fr,m,fun j hj=>⟨_,g j _ (aC hj),.num _ _ _⟩⟩
   ·show(if cap=0 then EV.odd ⟨b,off,none⟩else EV.slice b off bs.length cap false)=_;rw[aF (by omega)]
   ·exact Buv (p _ (aO.2 rfl)) m hj (g j _ (aC hj)) k
 refine⟨⟨C,D,G,evV V,bq,bs,ev⟩,ws,⟨?_,hw,fun A p=>⟨O A p,u,gV.pl⟩,hb,⟨E,F⟩,fun v Q=>?_⟩,?_⟩
 ·apply dY
  intro i;unfold H0.cells;rw[bG];rcases cZ i 4 with y|y
  ·rw[bh (by show i<4;exact y)]
   rcases i with _|_|_|_|i
   ·rw[e0];rfl
   ·rw[e1];rfl
   ·rw[e2];rfl
   ·rw[e3];rfl
   ·omega
  ·rw[bV (by show 4<=i;exact y)]
   rcases cZ i 72 with z|z
   ·obtain⟨v,a,b,c⟩:=B (i-4) (by omega)
    rw[show 4+(i-4)=i by omega]at a;rw[a];exact c.symm
   ·rw[cA (by omega),cA (by rw[Evt.Br u];show 68<=i-4;omega)];rfl
 ·obtain⟨i,f⟩:=cK.1 Q
  have S:=(aW.1 f).1;rcases cZ i 4 with y|y
  ·rcases i with _|_|_|_|i
   ·rw[e0]at f;cases f;exact .num _ _ _
   ·rw[e1]at f;cases f;exact .num _ _ _
   ·rw[e2]at f;cases f;exact .num _ _ _
   ·rw[e3]at f;cases f;exact gV
   ·omega
  ·obtain⟨v',a,b,c⟩:=B (i-4) (by omega)
   rw[show 4+(i-4)=i by omega,f]at a;cases a;exact b
 ·rcases lb with y|⟨el,rs,T,U⟩
  ·exact .inl y
  ·exact .inr ⟨el,rs,by rw[<-T];exact J,U⟩
end
theorem Bof:∀{L:List (List Value)},(∀l∈L,∃o ws,Avl W l o ws/\o.bs.length<=1048576)->∃(os:List H0) (ws:List (Nat × Nat × Nat)),os.length=L.length/\(∀x∈ws,Bny W x)/\∀(j:Nat) (l:List Value) (o:H0),L[j]? = some l->os[j]? = some o->∃w',Avl W l o w'/\o.bs.length<=1048576/\∀x∈w',x∈ws
 | [],_=>⟨[],[],rfl,fun x d=>(by cases d),fun j l o hj=>by cases hj⟩
 | l::L,h=>by
  obtain⟨o,w1,a,b⟩:=h l (aX ..);obtain⟨os,ws,e,hw,hj⟩:=Bof (L:=L) fun l g=>h l (aT _ g)
  refine⟨o::os,w1++ws,by rw[bH,bH,e],fun x d=>?_,fun j l' o' f h2=>?_⟩
  ·rcases bO.1 d with y|y
   ·exact a.win x y
   ·exact hw x y
  ·cases j with
   | zero=>cases f;cases h2;exact⟨w1,a,b,fun x d=>bO.2 (.inl d)⟩
   | succ j=>
    obtain⟨w',c1,c2,c3⟩:=hj j l' o' f h2;exact⟨w',c1,c2,fun x d=>bO.2 (.inr (c3 x d))⟩
theorem A0k {w:World}{v:Value}(R:Bbr w v 72 L)(J:∀l∈L,∃o ws,Avl w l o ws/\o.bs.length<=1048576):∃(h:Ab) (b:Nat) (os:List H0),Boh w h/\Cr Aky (evV v)=v/\(evV v).ok (fun i=>i<w.heap.size)/\So h w.heap.size (evV v) b os:=by
 obtain⟨os,ws,el,hw,hj⟩:=Bof J;have mk:∀A,(∀x∈ws,x∈A)->∀o∈os,o.At (Ank w A)/\(0<o.bs.length->o.bq<w.heap.size)/\o.bs.length<=1048576/\Rng o.x:=fun A K o g=>by
  obtain⟨j,m⟩:=cK.1 g;have O:=(aW.1 m).1;obtain⟨w',a,b,c⟩:=hj j _ o (aC (by omega)) m;exact⟨a.Qu A fun x d=>K x (c x d),a.bq,b,a.rx⟩
 rcases R with⟨rfl,rfl⟩|⟨b,off,cap,arr,e,fr,rfl,t,p,u⟩
 ·have:os = []:=dB el
  subst this;exact⟨Ank w ws,0,[],Bna hw,rfl,trivial,⟨.inl ⟨rfl,rfl⟩,fun o g=>by cases g⟩⟩
 ·have B:∀(j:Nat) (f:j<L.length),(L[j]).length=72/\(L[j]).map evV=(os[j]'(by omega)).cells/\∀V∈L[j],A2l w.heap.size V:=fun j f=>by
   obtain⟨w',a,_,_⟩:=hj j L[j] (os[j]'(by omega)) (aC f) (aC (by omega));have:=congrArg List.length a.cells;rw[bX,H0.len (a.Qu w' fun x d=>d).ev]at this;exact⟨this,a.cells,a.Btu⟩
  have hb:b<w.heap.size:=(cP.1 p).1;have d:Bny w (b,off,L.length*72):=⟨arr,e,fr,p,fun k C=>by
   have C:k<L.length*72:=C;have D:k/72<L.length:=by omega
   obtain⟨E,_,n3⟩:=B _ D;have h2:k%72<(L[k/72]).length:=by omega
   have:=u (k/72) (k%72) D _ (by omega) (aC h2);rw[show k/72*72+k%72=k by omega]at this;exact⟨_,this,n3 _ (av h2)⟩⟩
  have e1:∀c,evV (.slice (some ⟨b,off,none⟩) L.length c)=if c=0 then .odd ⟨b,off,none⟩else .slice b off L.length c false:=fun c=>rfl
  rcases dI cap with F|F
  ·subst F
   have:L = []:=dB (by omega);subst this;have:os = []:=dB el;subst this;exact⟨Ank w ws,0,[],Bna hw,rfl,trivial,⟨.inl ⟨rfl,rfl⟩,fun o g=>by cases g⟩⟩
  ·refine⟨Ank w ((b,off,L.length*72)::ws),b,os,Bna fun x q=>?_,?_,?_,⟨.inr ⟨hb,off,cap,false,?_,fun j f k=>?_⟩,mk _ fun x d=>aT _ d⟩⟩
   ·rcases bU.1 q with y|y
    ·subst y;exact d
    ·exact hw x y
   ·rw[e1,aF (by omega)];rfl
   ·rw[e1,aF (by omega)];exact hb
   ·rw[e1,aF (by omega),el]
   ·obtain⟨E,M,n3⟩:=B j (by omega)
    have:=Buh (w:=w) (A:=ws) (x:=(b,off,L.length*72)) p (j:=j*72) (n:=72) (by show j*72+72<=L.length*72;omega) (by decide) E (fun r V G=>u j r (by omega) V (by have:=(aW.1 G).1;omega) G) k;rw[M]at this;exact this
end Go.Ev
