import Derived.Test.YtadnemjjlacolaaGreatWa
import Derived.WalkKit
import Derived.ProofKit
import Derived.OpenShut
import Derived.Carry
import Derived.Deep.Slices
import Derived.Deep.Fields
set_option linter.all false
namespace Go.Ev
end Go.Ev

namespace Go.Ev
set_option maxRecDepth 100000
theorem Bon {ws:List (Nat × List EV)}{off o:Nat}{l:List EV}(hm:(o,l)∈ws)(a:o<=off)(h2:off-o<l.length):∃o' l',Ara ws off=some (o',l')/\(o',l')∈ws/\o'<=off/\off-o'<l'.length:=by
 induction ws with
 | nil=>cases hm
 | cons x r b=>
  obtain⟨o',l'⟩:=x;unfold Ara;by_cases c:o'<=off/\off-o'<l'.length
  ·refine⟨o',l',?_,aX ..,c.1,c.2⟩
   rw[aS c.1,Ak,show Nat.ble (Nat.succ (Nat.sub off o')) (len l')=true from aS (by rw[Zr];exact c.2),Ak]
  ·have d:Bf (Nat.ble o' off) (Nat.ble (Nat.succ (Nat.sub off o')) (len l')) false=false:=by
    cases hb:Nat.ble o' off with
    | false=>rfl
    | true=>
     rw[Ak];cases e:Nat.ble (Nat.succ (Nat.sub off o')) (len l')with
     | false=>rfl
     | true=>
      have y:=bI e;rw[Zr]at y;exact absurd ⟨bI hb,y⟩ c
   rw[d,Bo];rcases bU.1 hm with y|y
   ·cases y;exact absurd ⟨a,h2⟩ c
   ·obtain⟨f,g,e1,e2,e3⟩:=b y
    exact⟨f,g,e1,aT _ e2,e3⟩
section
open Go.ChangeShapes Go.WideShapes Go.ChangeAt Go.RowKit Go.Deep
set_option maxRecDepth 100000
theorem Bvb {P:Program}{w:World}{base:Nat}{t e:TypeId}{v:Value}(b:P.underlying t=some (.slice e))(h:Value.okWide P w .any base t v):v=.slice none 0 0\/∃a len cap,v=.slice (some a) len cap/\a.spot=none/\∃row cells,w.shape? a.block=some (row,cells):=by
 unfold Value.okWide at h;rw[b]at h;simp only at h;unfold Cell.okWide at h;rw[b]at h;simp only at h;unfold Cell.ok at h;rw[b]at h;split at h<;>first|(rename_i e;cases e;done)|skip
 all_goals first|exact .inl rfl|skip
 all_goals first|(exact h.elim)|skip
 ·rename_i e
  cases e;exact .inr ⟨_,_,_,rfl,h.2.2.2.1,by obtain⟨row,cells,hs,_⟩:=h.2.2.2.2;exact⟨row,cells,hs⟩⟩
end
section
open Go.ChangeShapes Go.WideShapes Go.ChangeAt Go.RowKit Go.Deep
set_option maxRecDepth 100000
section
variable {P:Program}{W:World}{H:Type}{enc:TypeId × Value->H}{base b2:Nat}{sp:Nat->Bool}{hd:Bool}
end
end
section
open Go.ChangeShapes Go.WideShapes Go.ChangeAt Go.RowKit Go.Deep
set_option maxRecDepth 100000
inductive Ct where
 | int (k:IntKind)
 | bool
 | str
 | row (e:TypeId)
def Bm7(P:Program)(rec:TypeId->Option (List Ct)):List Field->Nat->Option (List Ct)
 | [],_=>some []
 | f::r,off=>if f.offset=off then
  match rec f.type with
  | some l=>if P.cellsOf f.type=l.length then(Bm7 P rec r (off+l.length)).map (l ++ ·)else none
  | none=>none
  else none
def ctF(P:Program):Nat->TypeId->Option (List Ct)
 | 0,_=>none
 | d+1,t=>match P.underlying t with
  | some (.int k)=>some [.int k]
  | some .bool=>some [.bool]
  | some .string=>some [.str]
  | some (.slice e)=>some [.row e]
  | some (.struct a)=>match Bm7 P (ctF P d) a.toList 0 with
   | some l=>if P.cellsOf t=l.length then some l else none
   | none=>none
  | some (.array n e)=>match ctF P d e with
   | some l=>if P.cellsOf e=l.length/\P.cellsOf t=n*l.length then some (List.replicate n l).flatten else none
   | none=>none
  | _=>none
def CtT(P:Program):Ct->TypeId->Prop
 | .int k,t=>P.underlying t=some (.int k)
 | .bool,t=>P.underlying t=some .bool
 | .str,t=>P.underlying t=some .string
 | .row e,t=>P.underlying t=some (.slice e)
inductive Sub {H:Type} (d:DataW H):DataW H->Prop where
 | refl:Sub d d
 | agg {x:DataW H} {l:List (DataW H)}:x∈l->Sub d x->Sub d (.agg l)
 | elem {x:DataW H} {l r:List (DataW H)}:x∈l->Sub d x->Sub d (.slice l r)
theorem Bis {P:Program}{rec:TypeId->Option (List Ct)}:∀{fl:List Field} {off:Nat} {b:List Ct},Bm7 P rec fl off=some b->∀(i:Nat) c,b[i]? = some c->∃(j:Nat) (f:Field) (l:List Ct) (r:Nat),fl[j]? = some f/\rec f.type=some l/\P.cellsOf f.type=l.length/\l[r]? = some c/\f.offset+r=off+i
 | [],off,b,h,i,c,a=>by cases h;cases a
 | f::fl,off,b,h,i,c,a=>by
  unfold Bm7 at h;split at h
  ·rename_i g
   split at h
   ·rename_i l k
    split at h
    ·rename_i m
     cases d:Bm7 P rec fl (off+l.length)with
     | none=>rw[d]at h;cases h
     | some n=>
      rw[d]at h;cases h;by_cases e:i<l.length
      ·rw[bh e]at a
       exact⟨0,f,l,i,rfl,k,m,a,by rw[g]⟩
      ·rw[bV (by omega)]at a
       obtain⟨j,f',l',r,o,h2,p,h4,q⟩:=Bis d _ c a;exact⟨j+1,f',l',r,o,h2,p,h4,by omega⟩
    ·cases h
   ·cases h
  ·cases h
section
variable {P:Program}{W:World}{H:Type}{enc:TypeId × Value->H}{base:Nat}{sp:Nat->Bool}{hd:Bool}
theorem Bod:∀(L:Nat) {t:TypeId} {u:List Ct} {fuel:Nat} {cs:List Value} {x:DataW H × List MemPlace},ctF P L t=some u->DataW.trod enc P W base sp hd fuel t cs=some x ->
 cs.length=u.length/\∀(i:Nat) c,u[i]? = some c->∃v o p q,cs[i]? = some v/\Sub q.1 x.1/\DataW.trod enc P W base sp hd o p [v]=some q/\CtT P c p:=by
 intro L;induction L with
 | zero=>intro t u fuel cs x h;cases h
 | succ L T=>
  intro t u fuel cs x d h;have one:∀{v:Value} {c:Ct},cs = [v]->u = [c]->CtT P c t->cs.length=u.length/\∀(i:Nat) c,u[i]? = some c->∃v o p q,cs[i]? = some v/\Sub q.1 x.1/\DataW.trod enc P W base sp hd o p [v]=some q/\CtT P c p:=fun {v c} e1 e2 e3=>by
   subst e1;subst e2;refine⟨rfl,fun i c' A=>?_⟩;cases i with
   | zero=>cases A;exact⟨v,fuel,t,x,rfl,.refl,h,e3⟩
   | succ i=>cases A
  unfold ctF at d;split at d
  ·rename_i k hu
   cases d;obtain⟨n,rfl,_,_⟩:=DataW.trod_int hu h;exact one rfl rfl hu
  ·rename_i hu
   cases d;obtain⟨b,rfl,_⟩:=DataW.trod_bool hu h;exact one rfl rfl hu
  ·rename_i hu
   cases d;obtain⟨b,rfl,_⟩:=DataW.trod_string hu h;exact one rfl rfl hu
  ·rename_i e hu
   cases d;rcases DataW.trod_slice hu h with⟨rfl,_⟩|⟨a,len,cap,el,rs,n,_,rfl,_⟩
   ·exact one rfl rfl hu
   ·exact one rfl rfl hu
  ·rename_i U hu
   split at d
   ·rename_i l M
    split at d
    ·rename_i hlen
     cases d;obtain⟨xs,n,_,rfl,B,C,V⟩:=DataW.trod_struct hu h;refine⟨by rw[B,hlen],fun i c A=>?_⟩;obtain⟨j,f,l',r,X,h2,Y,h4,h5⟩:=Bis M i c A;have J:U[j]? = some f:=by rw[<-cJ];exact X
     have hj:j<xs.length:=by rw[C];exact(cP.1 J).1
     have g:=V j f J;rw[aC hj]at g;obtain⟨Z,O⟩:=T h2 g;obtain⟨v,Q,p,q,b1,b2,b3,b4⟩:=O r c h4;refine⟨v,Q,p,q,?_,.agg (bc.2 ⟨_,av hj,rfl⟩) b2,b3,b4⟩;have D:=(aW.1 h4).1;rw[eW,aG (by rw[Y];exact D),dO]at b1;rw[show i=f.offset+r by omega];exact b1
    ·cases d
   ·cases d
  ·rename_i n e hu
   split at d
   ·rename_i l M
    split at d
    ·rename_i E
     cases d;obtain⟨xs,m,_,rfl,B,C,hg⟩:=DataW.trod_array hu h;have K:∀k,(List.replicate k l).flatten.length=k*l.length:=fun k=>by simp
     refine⟨by rw[B,E.2,K],fun i c A=>?_⟩;have F:=(aW.1 A).1;rw[K]at F;have hp:0<l.length:=Nat.pos_of_ne_zero fun y=>by rw[y]at F;omega
     have G:i/l.length<n:=fQ (by rw[gC];exact F);have D:i%l.length<l.length:=Nat.mod_lt _ hp;have e1:i=i/l.length*l.length+i%l.length:=by have:=Nat.div_add_mod i l.length;rw[gC]at this;omega
     have Qu:∀(k j r:Nat),j<k->r<l.length->(List.replicate k l).flatten[j*l.length+r]? = l[r]?:=by
      intro k;induction k with
      | zero=>intro j r hj;omega
      | succ k S=>
       intro j r hj D;rw[eI,cC];cases j with
       | zero=>rw[gA,bJ,bh D]
       | succ j=>rw[bV (by rw[fL];omega),show(j+1)*l.length+r-l.length=j*l.length+r by rw[fL];omega];exact S j r (by omega) D
     rw[e1,Qu n _ _ G D]at A;have g:=hg _ G;have hj:i/l.length<xs.length:=by rw[C];exact G
     rw[aC hj]at g;obtain⟨Z,O⟩:=T M g;obtain⟨v,Q,p,q,b1,b2,b3,b4⟩:=O _ c A;refine⟨v,Q,p,q,?_,.agg (bc.2 ⟨_,av hj,rfl⟩) b2,b3,b4⟩;rw[eW,aG (by rw[E.1];exact D),dO,E.1]at b1;rw[e1];exact b1
    ·cases d
   ·cases d
  ·cases d
def Bbr(w:World)(v:Value)(n:Nat)(L:List (List Value)):Prop:=(v=.slice none 0 0/\L = [])\/∃b off cap arr e fr,v=.slice (some ⟨b,off,none⟩) L.length cap/\L.length<=cap/\w.heap[b]? = some (.cells arr e fr)/\∀(j r:Nat) (hj:j<L.length) x,r<n->L[j][r]? = some x->arr[off+(j*n+r)]? = some x
def A7m(P:Program)(W:World)(enc:TypeId × Value->H)(base:Nat)(sp:Nat->Bool)(hd:Bool)(b:List Ct)(d:DataW H)(l:List Value):Prop:=
 l.length=b.length/\∀(i:Nat) c,b[i]? = some c->∃v a e f,l[i]? = some v/\Sub f.1 d/\DataW.trod enc P W base sp hd a e [v]=some f/\CtT P c e
theorem Apb {t e:TypeId}{b2 M:Nat}{k:List Ct}{v:Value}{d:DataW H}{p:List MemPlace}(O:P.underlying t=some (.slice e))(T:ctF P M e=some k)(B:P.cellsOf e=k.length)
 (U:Value.okWide P W .any base t v) (h:DataW.Trod enc P W b2 sp hd t v d p):∃L:List (List Value),Bbr W v k.length L/\(∀l∈L,A7m P W enc b2 sp hd k d l)/\(L = []\/∃el rs,d=.slice el rs/\el.length=L.length):=by
 rcases Bvb O U with rfl|⟨⟨b,off,spot⟩,len,cap,rfl,m,row,cells,f⟩
 ·exact⟨[],.inl ⟨rfl,rfl⟩,fun x o=>(by cases o),.inl rfl⟩
 ·obtain⟨fuel,V⟩:=h
  simp only at m;subst m;rcases DataW.trod_slice O V with⟨o,_⟩|⟨a,Q,S,el,rs,n,_,o,C,hb,X,hm,D,Y,_⟩
  ·cases o
  ·cases o
   cases C;unfold World.shape? at f;split at f
   ·rename_i arr e' fr hw
    have each:∀i,∃l:List Value,i<len->A7m P W enc b2 sp hd k (.slice (el.map (·.1)) (rs.map (·.1))) l/\∀r x,r<k.length->l[r]? = some x->arr[off+(i*k.length+r)]? = some x:=by
     intro i;by_cases A:i<len
     ·have g:=Y i A
      rw[B,aC (by omega)]at g;cases u:W.cells? b2 (Addr.add ⟨b,off,none⟩ (i*k.length)) k.length with
      | none=>rw[u]at g;cases g
      | some cs=>
       rw[u]at g;have g:DataW.trod enc P W b2 sp hd n e cs=some el[i]:=g;obtain⟨Z,a2⟩:=Bod M T g;obtain⟨_,_,E⟩:=World.cells?_some u;refine⟨cs,fun _=>⟨⟨Z,fun j c hj=>?_⟩,fun r x G o=>?_⟩⟩
       ·obtain⟨v,fu,t',x',b1,b2,b3,b4⟩:=a2 j c hj
        exact⟨v,fu,t',x',b1,.elem (bc.2 ⟨_,av (by omega),rfl⟩) b2,b3,b4⟩
       ·have:=E r G
        rw[o,Addr.add_lit,Addr.add_lit]at this;simp only[World.cell?,hw]at this;rw[<-Nat.add_assoc];exact this
     ·exact⟨[],fun y=>absurd y A⟩
    have F:∀i,{ l:List Value // i<len->A7m P W enc b2 sp hd k (.slice (el.map (·.1)) (rs.map (·.1))) l/\∀r x,r<k.length->l[r]? = some x->arr[off+(i*k.length+r)]? = some x }:=fun i=>⟨Classical.choose (each i),Classical.choose_spec (each i)⟩
    have q:((List.range len).map fun i=>(F i).1).length=len:=by simp
    refine⟨(List.range len).map fun i=>(F i).1,.inr ⟨b,off,cap,arr,e',fr,by rw[q],by rw[q];exact X,hw,fun j r hj x G o=>?_⟩,fun l J=>?_,.inr ⟨_,_,rfl,by rw[q,bX,D]⟩⟩
    ·rw[List.getElem_map,List.getElem_range]at o
     exact((F j).2 (by rw[q]at hj;exact hj)).2 r x G o
    ·obtain⟨i,K,rfl⟩:=bc.1 J
     exact((F i).2 (by simpa using K)).1
   ·cases f
end
end
open Go.ChangeShapes Go.WideShapes Go.ChangeAt Go.RowKit Go.Deep
set_option maxRecDepth 100000
def evV:Value->EV
 | .int k n=>.int k n
 | .bool b=>.bool b
 | .string s=>.str s
 | .slice none _ _=>.Ao
 | .slice (some a) len cap=>if cap=0 then .odd a else .slice a.block a.off len cap false
 | _=>.bool false
def Aky:Loc:=⟨id,fun _=>0⟩
structure A2l(N:Nat)(V:Value):Prop where
 back:Cr Aky (evV V)=V
 ok:(evV V).ok fun i=>i<N
 one:(evV V).one=true
 pl:(evV V).plain=true/\(evV V).cells = [evV V]
structure Bny(w:World)(x:Nat × Nat × Nat):Prop where
 Qu:∃arr e fr,w.heap[x.1]? = some (.cells arr e fr)/\∀j,j<x.2.2->∃V,arr[x.2.1+j]? = some V/\A2l w.heap.size V
def Aqf(arr:Array Value)(o n:Nat):List EV:=(List.range n).map fun j=>evV (arr.getD (o+j) (.bool false))
def Q5(w:World)(A:List (Nat × Nat × Nat))(b:Nat):List (Nat × List EV):=match w.heap[b]? with
 | some (.cells arr _ _)=>(A.filter fun x=>x.1 == b).map fun x=>(x.2.1,Aqf arr x.2.1 x.2.2)
 | _=>[]
def Bg8(w:World)(A:List (Nat × Nat × Nat))(b:Nat):Option Ec:=match w.heap[b]? with
 | some o=>match Q5 w A b with
  | []=>none
  | ws=>some (.view ws o)
 | none=>none
noncomputable def trW(w:World)(A:List (Nat × Nat × Nat)):Nat->Tr Ec
 | 0=>.nil
 | n+1=>(trW w A n).put n (Bg8 w A n)
noncomputable def Ank(w:World)(A:List (Nat × Nat × Nat)):Ab:=⟨trW w A w.heap.size,w.heap.size,w.heap.size⟩
theorem Bjn(w:World)(A:List (Nat × Nat × Nat)):∀n i,(trW w A n).get i=if i<n then Bg8 w A i else none
 | 0,i=>by rw[aF (by omega)];rfl
 | n+1,i=>by
  show((trW w A n).put n (Bg8 w A n)).get i=_;rw[Tr.get_put,Bjn w A n i];by_cases h:n=i
  ·subst h;rw[aG rfl,aG (by omega)]
  ·rw[aF h]
   by_cases h2:i<n
   ·rw[aG h2,aG (by omega)]
   ·rw[aF h2,aF (by omega)]
theorem A7e(w:World)(A:List (Nat × Nat × Nat))(i:Nat):(Ank w A).get i=if i<w.heap.size then Bg8 w A i else none:=Bjn w A _ i
theorem Bkh {w:World}{A:List (Nat × Nat × Nat)}{b:Nat}{o:Ec}(h:Bg8 w A b=some o):∃r,w.heap[b]? = some r/\o=.view (Q5 w A b) r/\Q5 w A b≠[]:=by
 unfold Bg8 at h;split at h
 ·rename_i r d
  split at h
  ·cases h
  ·rename_i ws a
   cases h;exact⟨r,d,rfl,a⟩
 ·cases h
theorem Ajk {w:World}{A:List (Nat × Nat × Nat)}{b:Nat}{arr:Array Value}{e:TypeId}{fr:Nat × Nat}(h:w.heap[b]? = some (.cells arr e fr)):Q5 w A b=(A.filter fun x=>x.1 == b).map fun x=>(x.2.1,Aqf arr x.2.1 x.2.2):=by
 unfold Q5;rw[h]
structure Boh(w:World)(h:Ab):Prop where
 hok:Y9 (fun i=>i<w.heap.size) h
 rep:Y5 Aky h w
 hb:HB h
 next:h.next=w.heap.size
 view:∀i o,h.get i=some o->∃ws r,o=.view ws r
theorem Bna {w:World}{A:List (Nat × Nat × Nat)}(D:∀x∈A,Bny w x):Boh w (Ank w A):=by
 have cs:∀i o,(Ank w A).get i=some o->i<w.heap.size/\∃arr e fr,w.heap[i]? = some (.cells arr e fr)/\o=.view (Q5 w A i) (.cells arr e fr)/\∀x∈Q5 w A i,∀(j:Nat) v,x.2[j]? = some v->∃V,arr[x.1+j]? = some V/\A2l w.heap.size V/\v=evV V:=fun i o a=>by
  rw[A7e]at a;split at a
  ·rename_i d
   obtain⟨r,b,rfl,p⟩:=Bkh a;cases r with
   | cells arr e fr=>
    refine⟨d,arr,e,fr,b,rfl,fun x f j v hj=>?_⟩;rw[Ajk b]at f;obtain⟨y,E,rfl⟩:=bc.1 f;obtain⟨t,u⟩:=dU.1 E;have hb:y.1=i:=by simpa using u
    obtain⟨B,e',F,C,h2⟩:=(D y t).Qu;rw[hb,b]at C;cases C;have k:j<y.2.2:=by
     have:=(aW.1 hj).1;unfold Aqf at this;simpa using this
    obtain⟨V,n,G⟩:=h2 j k;refine⟨V,n,G,?_⟩;unfold Aqf at hj;rw[bG,cM k]at hj;have hj:=gF hj;rw[<-hj];show evV (arr.getD (y.2.1+j) (.bool false))=evV V;rw[eJ,n];rfl
   | _=>exact absurd (by unfold Q5;rw[b]) p
  ·cases a
 refine⟨⟨fun i d=>d,fun i o a=>?_⟩,⟨fun i o a=>?_,fun i j o o' _ _ e=>e⟩,fun q o a=>(cs q o a).1,rfl,fun i o a=>?_⟩
 ·obtain⟨d,arr,e,fr,b,rfl,m⟩:=cs i o a
  refine⟨d,fun x f=>⟨(Km _ _).2 fun v h=>?_,dM.2 fun v h=>?_⟩⟩
  ·obtain⟨j,hj⟩:=cK.1 h
   obtain⟨V,_,g,rfl⟩:=m x f j v hj;exact g.ok
  ·obtain⟨j,hj⟩:=cK.1 h
   obtain⟨V,_,g,rfl⟩:=m x f j v hj;exact g.one
 ·obtain⟨d,arr,e,fr,b,rfl,m⟩:=cs i o a
  refine⟨_,b,rfl,arr,e,fr,rfl,fun x f j v hj=>?_⟩;obtain⟨V,n,g,rfl⟩:=m x f j v hj;rw[n,g.back]
 ·obtain⟨d,arr,e,fr,b,rfl,m⟩:=cs i o a
  exact⟨_,_,rfl⟩
theorem Abn {P:Program}{g:Nat}{w:World}{h:Ab}(l:Boh w h){args:List EV}{vs:List Value}(p:Bx Aky args=vs)(q:EV.Wz (fun i=>i<w.heap.size) args){v:EV}{V:Value}(t:∀f,Cr f v=V){h':Ab}
 (G:Good P g args h v h') (same:∀i,i<w.heap.size->h'.get i=h.get i):Calls P g vs.toArray w fun e w'=>e=.returned V/\RowKit.Below w.heap.size w w':=by
 intro cs;obtain⟨fr,f',w',hs,d,m,hm,hwf,u⟩:=G.run _ Aky w l.hok l.rep q cs;rw[p]at hs;rw[t]at m;refine⟨.returned V,w',fr,⟨rfl,hm.os,hm.tape,hm.output,hm.size,fun k x=>?_⟩,hs,d,m⟩;by_cases n:∃i o,h.get i=some o/\Aky.b i=k
 ·obtain⟨i,o,a,rfl⟩:=n
  have li:=(l.hok.get i o a).1;obtain⟨ws,r,rfl⟩:=l.view i o a;obtain⟨B,e1,y,_⟩:=l.rep.obj i _ a;have j:h'.get i=some (.view ws r):=by rw[same i li];exact a
  obtain⟨C,e2,A,_⟩:=hm.rep.obj i _ j;rw[<-(hm.Gf i li).1]at e2;rw[e2,e1,y,A]
 ·exact hm.kept k x fun i o a e=>n ⟨i,o,a,e⟩
theorem Az0(arr:Array Value)(o n:Nat):(Aqf arr o n).length=n:=by unfold Aqf;simp
theorem Bji {arr:Array Value}{o n j:Nat}{V:Value}(hj:j<n)(h:arr[o+j]? = some V):(Aqf arr o n)[j]? = some (evV V):=by
 unfold Aqf;rw[bG,cM hj];show some (evV (arr.getD (o+j) (.bool false)))=_;rw[eJ,h];rfl
theorem Bju {w:World}{A:List (Nat × Nat × Nat)}{x:Nat × Nat × Nat}(d:x∈A){arr:Array Value}{e:TypeId}{fr:Nat × Nat}(h:w.heap[x.1]? = some (.cells arr e fr)):(Ank w A).get x.1=some (.view (Q5 w A x.1) (.cells arr e fr)):=by
 have b:x.1<w.heap.size:=(cP.1 h).1;have hm:(x.2.1,Aqf arr x.2.1 x.2.2)∈Q5 w A x.1:=by
  rw[Ajk h];exact bc.2 ⟨x,dU.2 ⟨d,by simp⟩,rfl⟩
 rw[A7e,aG b];unfold Bg8;rw[h];simp only;cases f:Q5 w A x.1 with
 | nil=>rw[f]at hm;cases hm
 | cons a r=>rfl
theorem Buv {w:World}{A:List (Nat × Nat × Nat)}{x:Nat × Nat × Nat}(d:x∈A){arr:Array Value}{e:TypeId}{fr:Nat × Nat}(h:w.heap[x.1]? = some (.cells arr e fr)){j:Nat}(hj:j<x.2.2){V:Value}(f:arr[x.2.1+j]? = some V)(k:EV->R):
 Fm (.ptr x.1 (x.2.1+j)) (Ank w A) k=k (evV V):=by
 have hm:(x.2.1,Aqf arr x.2.1 x.2.2)∈Q5 w A x.1:=by
  rw[Ajk h];exact bc.2 ⟨x,dU.2 ⟨d,by simp⟩,rfl⟩
 obtain⟨o',l',e1,e2,e3,e4⟩:=Bon (off:=x.2.1+j) hm (by omega) (by rw[Az0];omega);rw[Ajk h]at e2;obtain⟨y,p,e5⟩:=bc.1 e2;cases e5;rw[Az0]at e4;have g:Oy (Aqf arr y.2.1 y.2.2) (Nat.sub (x.2.1+j) y.2.1) 1=some [evV V]:=by
  have i:=Bji (n:=y.2.2) (o:=y.2.1) (j:=x.2.1+j-y.2.1) (V:=V) e4 (by rw[show y.2.1+(x.2.1+j-y.2.1)=x.2.1+j by omega];exact f);have m:=(aW.1 i);obtain⟨a,b⟩:=m;rw[Fw (by show x.2.1+j-y.2.1+1<=_;omega)];congr 1;show((Aqf arr y.2.1 y.2.2).drop (x.2.1+j-y.2.1)).take 1=_;rw[dE a,b];rfl
 show oB _ (Aq4 ((Ank w A).get x.1) (x.2.1+j) 1)=_;rw[Bju d h];show oB _ (match Ara (Q5 w A x.1) (x.2.1+j)with|some (o,l)=>Oy l (Nat.sub (x.2.1+j) o) 1|none=>none)=_;rw[e1];show oB _ (Oy (Aqf arr y.2.1 y.2.2) (Nat.sub (x.2.1+j) y.2.1) 1)=_;rw[g];rfl
theorem Buh {w:World}{A:List (Nat × Nat × Nat)}{x:Nat × Nat × Nat}{arr:Array Value}{e:TypeId}{fr:Nat × Nat}(h:w.heap[x.1]? = some (.cells arr e fr)){j n:Nat}(hj:j+n<=x.2.2)(m:0<n){l:List Value}(p:l.length=n)(f:∀(r:Nat) V,l[r]? = some V->arr[x.2.1+(j+r)]? = some V)(k:EV->R):
 Oz n (.ptr x.1 (x.2.1+j)) (Ank w (x::A)) k=k (.agg (l.map evV)):=by
 have g:Q5 w (x::A) x.1=(x.2.1,Aqf arr x.2.1 x.2.2)::(A.filter fun y=>y.1 == x.1).map fun y=>(y.2.1,Aqf arr y.2.1 y.2.2):=by
  rw[Ajk h,List.filter_cons_of_pos (by simp)];rfl
 have a:Ara (Q5 w (x::A) x.1) (x.2.1+j)=some (x.2.1,Aqf arr x.2.1 x.2.2):=by
  rw[g];unfold Ara;rw[aS (show x.2.1<=x.2.1+j by omega),Ak,show Nat.ble (Nat.succ (Nat.sub (x.2.1+j) x.2.1)) (len (Aqf arr x.2.1 x.2.2))=true from aS (by rw[Zr,Az0];show x.2.1+j-x.2.1+1<=_;omega),Ak]
 have i:Oy (Aqf arr x.2.1 x.2.2) (Nat.sub (x.2.1+j) x.2.1) n=some (l.map evV):=by
  rw[show Nat.sub (x.2.1+j) x.2.1=j by show x.2.1+j-x.2.1=_;omega,Fw (by rw[Az0];exact hj)];congr 1;apply dY;intro r;by_cases d:r<n
  ·have b:l[r]? = some (l[r]'(by omega)):=aC (by omega)
   rw[eW,aG d,dO,Bji (V:=l[r]'(by omega)) (by omega) (f r _ b),bG,b];rfl
  ·rw[eW,aF d,cA (by rw[bX];omega)]
 show oB _ (Aq4 ((Ank w (x::A)).get x.1) (x.2.1+j) n)=_;rw[Bju (aX ..) h];show oB _ (match Ara (Q5 w (x::A) x.1) (x.2.1+j)with|some (o,l)=>Oy l (Nat.sub (x.2.1+j) o) n|none=>none)=_;rw[a];show oB _ (Oy (Aqf arr x.2.1 x.2.2) (Nat.sub (x.2.1+j) x.2.1) n)=_;rw[i];rfl
def Bm1(w:World)(V:Value)(L:List Int):Prop:=(L = []/\(V=.slice none 0 0\/∃a,V=.slice (some a) 0 0))\/∃b off cap arr e fr,0<cap/\V=.slice (some ⟨b,off,none⟩) L.length cap/\w.heap[b]? = some (.cells arr e fr)/\∀(j:Nat) (x:Int),L[j]? = some x->arr[off+j]? = some (.int .i64 x)
theorem Bm1.Btu {w:World}{V:Value}{L:List Int}(r:Bm1 w V L):A2l w.heap.size V:=by
 rcases r with⟨_,rfl|⟨a,rfl⟩⟩|⟨b,off,cap,arr,e,fr,d,rfl,h,_⟩
 ·exact⟨rfl,trivial,rfl,rfl,rfl⟩
 ·exact⟨rfl,trivial,rfl,rfl,rfl⟩
 ·have e1:evV (.slice (some ⟨b,off,none⟩) L.length cap)=.slice b off L.length cap false:=by show(if cap=0 then EV.odd ⟨b,off,none⟩else EV.slice b off L.length cap false)=_;rw[aF (by omega)]
  refine⟨by rw[e1];rfl,?_,by rw[e1];rfl,by rw[e1];exact⟨rfl,rfl⟩⟩;rw[e1];exact(cP.1 h).1
theorem A2l.num(N:Nat)(k:IntKind)(n:Int):A2l N (.int k n):=⟨rfl,trivial,rfl,rfl,rfl⟩
theorem Bgx {P:Program}{W:World}{H:Type}{enc:TypeId × Value->H}{base:Nat}{hd:Bool}{t e:TypeId}{fuel:Nat}{V:Value}{x:DataW H × List MemPlace}(A:P.underlying t=some (.slice e))(he:P.underlying e=some (.int .i64))(B:P.cellsOf e=1)
 (h:DataW.trod enc P W base (fun _=>true) hd fuel t [V]=some x):∃L:List Int,Bm1 W V L/\(L = []\/∃el rs,x.1=.slice el rs/\el.length=L.length)/\∀x∈L,-9223372036854775808<=x/\x<=9223372036854775807:=by
 rcases open_slice1 A B h with⟨f,_⟩|⟨a,len,cap,m,n,E,D,G,f,hb,J,hm,k,q,v⟩
 ·cases f
  exact⟨[],.inl ⟨rfl,.inl rfl⟩,.inl rfl,fun x f=>by cases f⟩
 ·cases f
  rw[aG rfl]at k;subst k;rcases dI m with d|d
  ·subst d
   have:len=0:=by omega
   subst this;exact⟨[],.inl ⟨rfl,.inr ⟨a,rfl⟩⟩,.inl rfl,fun x f=>by cases f⟩
  ·obtain⟨b,off,spot⟩:=a
   have h0:=(v 0 d).1;rw[show(Addr.add ⟨b,off,spot⟩ 0)=⟨b,off,spot⟩from aG rfl]at h0;unfold World.cell? at h0;split at h0
   ·rename_i arr e' fr hw
    simp only at hw;cases spot with
    | some s=>simp at h0
    | none=>
    have each:∀i,∃y:Int,(i<m->arr[off+i]? = some (.int .i64 y))/\-9223372036854775808<=y/\y<=9223372036854775807:=by
     intro i;by_cases o:i<m
     ·obtain⟨u,h2⟩:=v i o
      obtain⟨y,e0,_,wf⟩:=DataW.trod_int he h2;simp only[List.cons.injEq,and_true]at e0;rw[e0,Addr.add_lit]at u;simp only[World.cell?,hw]at u;have wf:(decide (IntKind.i64.min<=y)&&decide (y<=IntKind.i64.max))=true:=wf;rw[aR,aQ,aQ]at wf;exact⟨y,fun _=>by simpa using u,wf⟩
     ·exact⟨0,fun y=>absurd y o,by omega,by omega⟩
    have F:∀i,{ y:Int // (i<m->arr[off+i]? = some (.int .i64 y))/\-9223372036854775808<=y/\y<=9223372036854775807 }:=fun i=>⟨Classical.choose (each i),Classical.choose_spec (each i)⟩
    have g:((List.range len).map fun i=>(F i).1).length=len:=by simp
    refine⟨(List.range len).map fun i=>(F i).1,.inr ⟨b,off,m,arr,e',fr,d,by rw[g],hw,fun j y hj=>?_⟩,.inr ⟨_,_,by rw[q],by rw[g];simp⟩,fun y C=>?_⟩
    ·have p:=(aW.1 hj).1
     rw[g]at p;rw[bG,cM p]at hj;cases hj;exact(F j).2.1 (by omega)
    ·obtain⟨i,_,rfl⟩:=bc.1 C
     exact(F i).2.2
   ·cases h0
end Go.Ev
