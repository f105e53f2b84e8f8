import Derived.Test.YtokpnommcenoaaaGreatWa
import Derived.WalkKit
import Derived.ProofKit
import Derived.OpenShut
import Derived.Carry
import Derived.Deep.Slices
import Derived.Deep.Fields
set_option linter.all false
namespace Go.Ev
end Go.Ev

namespace Go.Ev
section
set_option maxRecDepth 100000
end
section
open Go.ChangeShapes Go.WideShapes Go.ChangeAt Go.RowKit Go.Deep
set_option maxRecDepth 100000
theorem Bsd {P:Program}{w:World}{base:Nat}{t e:TypeId}{v:Value}(b:P.underlying t=some (.slice e))(h:Value.okWide P w .any base t v):v=.slice none 0 0\/∃a len cap,v=.slice (some a) len cap/\a.spot=none/\∃row cells,w.shape? a.block=some (row,cells):=by
 unfold Value.okWide at h;rw[b]at h;simp only at h;unfold Cell.okWide at h;rw[b]at h;simp only at h;unfold Cell.ok at h;rw[b]at h;split at h<;>first|(rename_i e;cases e;done)|skip
 all_goals first|exact .inl rfl|skip
 all_goals first|(exact h.elim)|skip
 ·rename_i e
  cases e;exact .inr ⟨_,_,_,rfl,h.2.2.2.1,by obtain⟨row,cells,hs,_⟩:=h.2.2.2.2;exact⟨row,cells,hs⟩⟩
end
section
open Go.ChangeShapes Go.WideShapes Go.ChangeAt Go.RowKit Go.Deep
set_option maxRecDepth 100000
section
variable {P:Program}{W:World}{H:Type}{enc:TypeId × Value->H}{base b2:Nat}{sp:Nat->Bool}{hd:Bool}
end
end
section
open Go.ChangeShapes Go.WideShapes Go.ChangeAt Go.RowKit Go.Deep
set_option maxRecDepth 100000
inductive Ct where
 | int (k:IntKind)
 | bool
 | str
 | row (e:TypeId)
def Bmb(P:Program)(rec:TypeId->Option (List Ct)):List Field->Nat->Option (List Ct)
 | [],_=>some []
 | f::r,off=>if f.offset=off then
  match rec f.type with
  | some l=>if P.cellsOf f.type=l.length then(Bmb P rec r (off+l.length)).map (l ++ ·)else none
  | none=>none
  else none
def ctF(P:Program):Nat->TypeId->Option (List Ct)
 | 0,_=>none
 | d+1,t=>match P.underlying t with
  | some (.int k)=>some [.int k]
  | some .bool=>some [.bool]
  | some .string=>some [.str]
  | some (.slice e)=>some [.row e]
  | some (.struct a)=>match Bmb P (ctF P d) a.toList 0 with
   | some l=>if P.cellsOf t=l.length then some l else none
   | none=>none
  | some (.array n e)=>match ctF P d e with
   | some l=>if P.cellsOf e=l.length/\P.cellsOf t=n*l.length then some (List.replicate n l).flatten else none
   | none=>none
  | _=>none
def CtT(P:Program):Ct->TypeId->Prop
 | .int k,t=>P.underlying t=some (.int k)
 | .bool,t=>P.underlying t=some .bool
 | .str,t=>P.underlying t=some .string
 | .row e,t=>P.underlying t=some (.slice e)
inductive Sub {H:Type} (d:DataW H):DataW H->Prop where
 | refl:Sub d d
 | agg {x:DataW H} {l:List (DataW H)}:x∈l->Sub d x->Sub d (.agg l)
 | elem {x:DataW H} {l r:List (DataW H)}:x∈l->Sub d x->Sub d (.slice l r)
theorem Bfn {P:Program}{rec:TypeId->Option (List Ct)}:∀{fl:List Field} {off:Nat} {b:List Ct},Bmb P rec fl off=some b->∀(i:Nat) c,b[i]? = some c->∃(j:Nat) (f:Field) (l:List Ct) (r:Nat),fl[j]? = some f/\rec f.type=some l/\P.cellsOf f.type=l.length/\l[r]? = some c/\f.offset+r=off+i
 | [],off,b,h,i,c,a=>by cases h;cases a
 | f::fl,off,b,h,i,c,a=>by
  unfold Bmb at h;split at h
  ·rename_i g
   split at h
   ·rename_i l k
    split at h
    ·rename_i m
     cases d:Bmb P rec fl (off+l.length)with
     | none=>rw[d]at h;cases h
     | some n=>
      rw[d]at h;cases h;by_cases e:i<l.length
      ·rw[bh e]at a
       exact⟨0,f,l,i,rfl,k,m,a,by rw[g]⟩
      ·rw[bY (by omega)]at a
       obtain⟨j,f',l',r,o,h2,p,h4,q⟩:=Bfn d _ c a;exact⟨j+1,f',l',r,o,h2,p,h4,by omega⟩
    ·cases h
   ·cases h
  ·cases h
section
variable {P:Program}{W:World}{H:Type}{enc:TypeId × Value->H}{base:Nat}{sp:Nat->Bool}{hd:Bool}
theorem Bl6:∀(dp:Nat) {t:TypeId} {u:List Ct} {fuel:Nat} {cs:List Value} {x:DataW H × List MemPlace},ctF P dp t=some u->DataW.trod enc P W base sp hd fuel t cs=some x ->
 cs.length=u.length/\∀(i:Nat) c,u[i]? = some c->∃v o p q,cs[i]? = some v/\Sub q.1 x.1/\DataW.trod enc P W base sp hd o p [v]=some q/\CtT P c p:=by
 intro dp;induction dp with
 | zero=>intro t u fuel cs x h;cases h
 | succ dp S=>
  intro t u fuel cs x d h;have one:∀{v:Value} {c:Ct},cs = [v]->u = [c]->CtT P c t->cs.length=u.length/\∀(i:Nat) c,u[i]? = some c->∃v o p q,cs[i]? = some v/\Sub q.1 x.1/\DataW.trod enc P W base sp hd o p [v]=some q/\CtT P c p:=fun {v c} e1 e2 e3=>by
   subst e1;subst e2;refine⟨rfl,fun i c' A=>?_⟩;cases i with
   | zero=>cases A;exact⟨v,fuel,t,x,rfl,.refl,h,e3⟩
   | succ i=>cases A
  unfold ctF at d;split at d
  ·rename_i k hu
   cases d;obtain⟨n,rfl,_,_⟩:=DataW.trod_int hu h;exact one rfl rfl hu
  ·rename_i hu
   cases d;obtain⟨b,rfl,_⟩:=DataW.trod_bool hu h;exact one rfl rfl hu
  ·rename_i hu
   cases d;obtain⟨b,rfl,_⟩:=DataW.trod_string hu h;exact one rfl rfl hu
  ·rename_i e hu
   cases d;rcases DataW.trod_slice hu h with⟨rfl,_⟩|⟨a,len,cap,el,rs,n,_,rfl,_⟩
   ·exact one rfl rfl hu
   ·exact one rfl rfl hu
  ·rename_i T hu
   split at d
   ·rename_i l L
    split at d
    ·rename_i hlen
     cases d;obtain⟨xs,n,_,rfl,B,C,U⟩:=DataW.trod_struct hu h;refine⟨by rw[B,hlen],fun i c A=>?_⟩;obtain⟨j,f,l',r,V,h2,X,h4,h5⟩:=Bfn L i c A;have J:T[j]? = some f:=by rw[<-cK];exact V
     have hj:j<xs.length:=by rw[C];exact(cM.1 J).1
     have g:=U j f J;rw[aH hj]at g;obtain⟨Y,M⟩:=S h2 g;obtain⟨v,O,p,q,b1,b2,b3,b4⟩:=M r c h4;refine⟨v,O,p,q,?_,.agg (cY.2 ⟨_,av hj,rfl⟩) b2,b3,b4⟩;have D:=(bJ.1 h4).1;rw[dY,aQ (by rw[X];exact D),cX]at b1;rw[show i=f.offset+r by omega];exact b1
    ·cases d
   ·cases d
  ·rename_i n e hu
   split at d
   ·rename_i l L
    split at d
    ·rename_i E
     cases d;obtain⟨xs,m,_,rfl,B,C,Z⟩:=DataW.trod_array hu h;have K:∀k,(List.replicate k l).flatten.length=k*l.length:=fun k=>by simp
     refine⟨by rw[B,E.2,K],fun i c A=>?_⟩;have F:=(bJ.1 A).1;rw[K]at F;have hp:0<l.length:=Nat.pos_of_ne_zero fun y=>by rw[y]at F;omega
     have G:i/l.length<n:=fH (by rw[fS];exact F);have D:i%l.length<l.length:=Nat.mod_lt _ hp;have e1:i=i/l.length*l.length+i%l.length:=by have:=Nat.div_add_mod i l.length;rw[fS]at this;omega
     have Mn:∀(k j r:Nat),j<k->r<l.length->(List.replicate k l).flatten[j*l.length+r]? = l[r]?:=by
      intro k;induction k with
      | zero=>intro j r hj;omega
      | succ k Q=>
       intro j r hj D;rw[eF,br];cases j with
       | zero=>rw[fQ,bF,bh D]
       | succ j=>rw[bY (by rw[fB];omega),show(j+1)*l.length+r-l.length=j*l.length+r by rw[fB];omega];exact Q j r (by omega) D
     rw[e1,Mn n _ _ G D]at A;have g:=Z _ G;have hj:i/l.length<xs.length:=by rw[C];exact G
     rw[aH hj]at g;obtain⟨Y,M⟩:=S L g;obtain⟨v,O,p,q,b1,b2,b3,b4⟩:=M _ c A;refine⟨v,O,p,q,?_,.agg (cY.2 ⟨_,av hj,rfl⟩) b2,b3,b4⟩;rw[dY,aQ (by rw[E.1];exact D),cX,E.1]at b1;rw[e1];exact b1
    ·cases d
   ·cases d
  ·cases d
def Bs4(w:World)(v:Value)(n:Nat)(L:List (List Value)):Prop:=(v=.slice none 0 0/\L = [])\/∃b off cap arr e fr,v=.slice (some ⟨b,off,none⟩) L.length cap/\L.length<=cap/\w.heap[b]? = some (.cells arr e fr)/\∀(j r:Nat) (hj:j<L.length) x,r<n->L[j][r]? = some x->arr[off+(j*n+r)]? = some x
def A46(P:Program)(W:World)(enc:TypeId × Value->H)(base:Nat)(sp:Nat->Bool)(hd:Bool)(b:List Ct)(d:DataW H)(l:List Value):Prop:=
 l.length=b.length/\∀(i:Nat) c,b[i]? = some c->∃v a e f,l[i]? = some v/\Sub f.1 d/\DataW.trod enc P W base sp hd a e [v]=some f/\CtT P c e
theorem Bka {t e:TypeId}{b2 dp:Nat}{k:List Ct}{v:Value}{d:DataW H}{p:List MemPlace}(M:P.underlying t=some (.slice e))(S:ctF P dp e=some k)(B:P.cellsOf e=k.length)
 (T:Value.okWide P W .any base t v) (h:DataW.Trod enc P W b2 sp hd t v d p):∃L:List (List Value),Bs4 W v k.length L/\(∀l∈L,A46 P W enc b2 sp hd k d l)/\(L = []\/∃el rs,d=.slice el rs/\el.length=L.length):=by
 rcases Bsd M T with rfl|⟨⟨b,off,spot⟩,len,cap,rfl,m,row,cells,f⟩
 ·exact⟨[],.inl ⟨rfl,rfl⟩,fun x o=>(by cases o),.inl rfl⟩
 ·obtain⟨fuel,U⟩:=h
  simp only at m;subst m;rcases DataW.trod_slice M U with⟨o,_⟩|⟨a,O,Q,el,rs,n,_,o,C,hb,V,hm,D,X,_⟩
  ·cases o
  ·cases o
   cases C;unfold World.shape? at f;split at f
   ·rename_i arr e' fr hw
    have each:∀i,∃l:List Value,i<len->A46 P W enc b2 sp hd k (.slice (el.map (·.1)) (rs.map (·.1))) l/\∀r x,r<k.length->l[r]? = some x->arr[off+(i*k.length+r)]? = some x:=by
     intro i;by_cases A:i<len
     ·have g:=X i A
      rw[B,aH (by omega)]at g;cases u:W.cells? b2 (Addr.add ⟨b,off,none⟩ (i*k.length)) k.length with
      | none=>rw[u]at g;cases g
      | some cs=>
       rw[u]at g;have g:DataW.trod enc P W b2 sp hd n e cs=some el[i]:=g;obtain⟨Y,Z⟩:=Bl6 dp S g;obtain⟨_,_,E⟩:=World.cells?_some u;refine⟨cs,fun _=>⟨⟨Y,fun j c hj=>?_⟩,fun r x G o=>?_⟩⟩
       ·obtain⟨v,fu,t',x',b1,b2,b3,b4⟩:=Z j c hj
        exact⟨v,fu,t',x',b1,.elem (cY.2 ⟨_,av (by omega),rfl⟩) b2,b3,b4⟩
       ·have:=E r G
        rw[o,eL,eL]at this;simp only[World.cell?,hw]at this;rw[<-Nat.add_assoc];exact this
     ·exact⟨[],fun y=>absurd y A⟩
    have F:∀i,{ l:List Value // i<len->A46 P W enc b2 sp hd k (.slice (el.map (·.1)) (rs.map (·.1))) l/\∀r x,r<k.length->l[r]? = some x->arr[off+(i*k.length+r)]? = some x }:=fun i=>⟨Classical.choose (each i),Classical.choose_spec (each i)⟩
    have q:((List.range len).map fun i=>(F i).1).length=len:=by simp
    refine⟨(List.range len).map fun i=>(F i).1,.inr ⟨b,off,cap,arr,e',fr,by rw[q],by rw[q];exact V,hw,fun j r hj x G o=>?_⟩,fun l J=>?_,.inr ⟨_,_,rfl,by rw[q,bZ,D]⟩⟩
    ·rw[List.getElem_map,List.getElem_range]at o
     exact((F j).2 (by rw[q]at hj;exact hj)).2 r x G o
    ·obtain⟨i,K,rfl⟩:=cY.1 J
     exact((F i).2 (by simpa using K)).1
   ·cases f
end
end
open Go.ChangeShapes Go.WideShapes Go.ChangeAt Go.RowKit Go.Deep
set_option maxRecDepth 100000
def evV:Value->EV
 | .int k n=>.int k n
 | .bool b=>.bool b
 | .string s=>.str s
 | .slice none _ _=>.Al
 | .slice (some a) len cap=>if cap=0 then .odd a else .slice a.block a.off len cap false
 | _=>.bool false
def A8q:Loc:=⟨id,fun _=>0⟩
structure A2a(N:Nat)(V:Value):Prop where
 back:Cp A8q (evV V)=V
 ok:(evV V).ok fun i=>i<N
 one:(evV V).one=true
 pl:(evV V).plain=true/\(evV V).cells = [evV V]
structure Bti(w:World)(x:Nat × Nat × Nat):Prop where
 Mn:∃arr e fr,w.heap[x.1]? = some (.cells arr e fr)/\∀j,j<x.2.2->∃V,arr[x.2.1+j]? = some V/\A2a w.heap.size V
def Auc(arr:Array Value)(o n:Nat):List EV:=(List.range n).map fun j=>evV (arr.getD (o+j) (.bool false))
def Rj(w:World)(A:List (Nat × Nat × Nat))(b:Nat):List (Nat × List EV):=match w.heap[b]? with
 | some (.cells arr _ _)=>(A.filter fun x=>x.1 == b).map fun x=>(x.2.1,Auc arr x.2.1 x.2.2)
 | _=>[]
def Bd3(w:World)(A:List (Nat × Nat × Nat))(b:Nat):Option By:=match w.heap[b]? with
 | some o=>match Rj w A b with
  | []=>none
  | ws=>some (.view ws o)
 | none=>none
noncomputable def trW(w:World)(A:List (Nat × Nat × Nat)):Nat->Tr By
 | 0=>.nil
 | n+1=>(trW w A n).put n (Bd3 w A n)
noncomputable def Awz(w:World)(A:List (Nat × Nat × Nat)):Ab:=⟨trW w A w.heap.size,w.heap.size,w.heap.size⟩
theorem Bgc(w:World)(A:List (Nat × Nat × Nat)):∀n i,(trW w A n).get i=if i<n then Bd3 w A i else none
 | 0,i=>by rw[aM (by omega)];rfl
 | n+1,i=>by
  show((trW w A n).put n (Bd3 w A n)).get i=_;rw[Tr.get_put,Bgc w A n i];by_cases h:n=i
  ·subst h;rw[aQ rfl,aQ (by omega)]
  ·rw[aM h]
   by_cases h2:i<n
   ·rw[aQ h2,aQ (by omega)]
   ·rw[aM h2,aM (by omega)]
theorem A4r(w:World)(A:List (Nat × Nat × Nat))(i:Nat):(Awz w A).get i=if i<w.heap.size then Bd3 w A i else none:=Bgc w A _ i
theorem Bhc {w:World}{A:List (Nat × Nat × Nat)}{b:Nat}{o:By}(h:Bd3 w A b=some o):∃r,w.heap[b]? = some r/\o=.view (Rj w A b) r/\Rj w A b≠[]:=by
 unfold Bd3 at h;split at h
 ·rename_i r d
  split at h
  ·cases h
  ·rename_i ws a
   cases h;exact⟨r,d,rfl,a⟩
 ·cases h
theorem Ath {w:World}{A:List (Nat × Nat × Nat)}{b:Nat}{arr:Array Value}{e:TypeId}{fr:Nat × Nat}(h:w.heap[b]? = some (.cells arr e fr)):Rj w A b=(A.filter fun x=>x.1 == b).map fun x=>(x.2.1,Auc arr x.2.1 x.2.2):=by
 unfold Rj;rw[h]
structure Bk7(w:World)(h:Ab):Prop where
 hok:Tk (fun i=>i<w.heap.size) h
 rep:Tz A8q h w
 hb:HB h
 next:h.next=w.heap.size
 view:∀i o,h.get i=some o->∃ws r,o=.view ws r
theorem Ble {w:World}{A:List (Nat × Nat × Nat)}(D:∀x∈A,Bti w x):Bk7 w (Awz w A):=by
 have cs:∀i o,(Awz w A).get i=some o->i<w.heap.size/\∃arr e fr,w.heap[i]? = some (.cells arr e fr)/\o=.view (Rj w A i) (.cells arr e fr)/\∀x∈Rj w A i,∀(j:Nat) v,x.2[j]? = some v->∃V,arr[x.1+j]? = some V/\A2a w.heap.size V/\v=evV V:=fun i o a=>by
  rw[A4r]at a;split at a
  ·rename_i d
   obtain⟨r,b,rfl,p⟩:=Bhc a;cases r with
   | cells arr e fr=>
    refine⟨d,arr,e,fr,b,rfl,fun x f j v hj=>?_⟩;rw[Ath b]at f;obtain⟨y,E,rfl⟩:=cY.1 f;obtain⟨t,u⟩:=eQ.1 E;have hb:y.1=i:=by simpa using u
    obtain⟨B,e',F,C,h2⟩:=(D y t).Mn;rw[hb,b]at C;cases C;have k:j<y.2.2:=by
     have:=(bJ.1 hj).1;unfold Auc at this;simpa using this
    obtain⟨V,n,G⟩:=h2 j k;refine⟨V,n,G,?_⟩;unfold Auc at hj;rw[bA,cQ k]at hj;have hj:=fU hj;rw[<-hj];show evV (arr.getD (y.2.1+j) (.bool false))=evV V;rw[eG,n];rfl
   | _=>exact absurd (by unfold Rj;rw[b]) p
  ·cases a
 refine⟨⟨fun i d=>d,fun i o a=>?_⟩,⟨fun i o a=>?_,fun i j o o' _ _ e=>e⟩,fun q o a=>(cs q o a).1,rfl,fun i o a=>?_⟩
 ·obtain⟨d,arr,e,fr,b,rfl,m⟩:=cs i o a
  refine⟨d,fun x f=>⟨(Ho _ _).2 fun v h=>?_,dP.2 fun v h=>?_⟩⟩
  ·obtain⟨j,hj⟩:=fF.1 h
   obtain⟨V,_,g,rfl⟩:=m x f j v hj;exact g.ok
  ·obtain⟨j,hj⟩:=fF.1 h
   obtain⟨V,_,g,rfl⟩:=m x f j v hj;exact g.one
 ·obtain⟨d,arr,e,fr,b,rfl,m⟩:=cs i o a
  refine⟨_,b,rfl,arr,e,fr,rfl,fun x f j v hj=>?_⟩;obtain⟨V,n,g,rfl⟩:=m x f j v hj;rw[n,g.back]
 ·obtain⟨d,arr,e,fr,b,rfl,m⟩:=cs i o a
  exact⟨_,_,rfl⟩
theorem Baq {P:Program}{g:Nat}{w:World}{h:Ab}(l:Bk7 w h){args:List EV}{vs:List Value}(p:Bp A8q args=vs)(q:EV.Tn (fun i=>i<w.heap.size) args){v:EV}{V:Value}(t:∀f,Cp f v=V){h':Ab}
 (G:Good P g args h v h') (same:∀i,i<w.heap.size->h'.get i=h.get i):Calls P g vs.toArray w fun e w'=>e=.returned V/\RowKit.Below w.heap.size w w':=by
 intro cs;obtain⟨fr,f',w',hs,d,m,hm,hwf,u⟩:=G.run _ A8q w l.hok l.rep q cs;rw[p]at hs;rw[t]at m;refine⟨.returned V,w',fr,⟨rfl,hm.os,hm.tape,hm.output,hm.size,fun k x=>?_⟩,hs,d,m⟩;by_cases n:∃i o,h.get i=some o/\A8q.b i=k
 ·obtain⟨i,o,a,rfl⟩:=n
  have li:=(l.hok.get i o a).1;obtain⟨ws,r,rfl⟩:=l.view i o a;obtain⟨B,e1,y,_⟩:=l.rep.obj i _ a;have j:h'.get i=some (.view ws r):=by rw[same i li];exact a
  obtain⟨C,e2,A,_⟩:=hm.rep.obj i _ j;rw[<-(hm.agree i li).1]at e2;rw[e2,e1,y,A]
 ·exact hm.kept k x fun i o a e=>n ⟨i,o,a,e⟩
theorem A9u(arr:Array Value)(o n:Nat):(Auc arr o n).length=n:=by unfold Auc;simp
theorem Bpk {arr:Array Value}{o n j:Nat}{V:Value}(hj:j<n)(h:arr[o+j]? = some V):(Auc arr o n)[j]? = some (evV V):=by
 unfold Auc;rw[bA,cQ hj];show some (evV (arr.getD (o+j) (.bool false)))=_;rw[eG,h];rfl
theorem Bqm {w:World}{A:List (Nat × Nat × Nat)}{x:Nat × Nat × Nat}(d:x∈A){arr:Array Value}{e:TypeId}{fr:Nat × Nat}(h:w.heap[x.1]? = some (.cells arr e fr)):(Awz w A).get x.1=some (.view (Rj w A x.1) (.cells arr e fr)):=by
 have b:x.1<w.heap.size:=(cM.1 h).1;have hm:(x.2.1,Auc arr x.2.1 x.2.2)∈Rj w A x.1:=by
  rw[Ath h];exact cY.2 ⟨x,eQ.2 ⟨d,by simp⟩,rfl⟩
 rw[A4r,aQ b];unfold Bd3;rw[h];simp only;cases f:Rj w A x.1 with
 | nil=>rw[f]at hm;cases hm
 | cons a r=>rfl
theorem Bsq {w:World}{A:List (Nat × Nat × Nat)}{x:Nat × Nat × Nat}{arr:Array Value}{e:TypeId}{fr:Nat × Nat}(h:w.heap[x.1]? = some (.cells arr e fr)){j n:Nat}(hj:j+n<=x.2.2)(m:0<n){l:List Value}(p:l.length=n)(f:∀(r:Nat) V,l[r]? = some V->arr[x.2.1+(j+r)]? = some V)(k:EV->R):
 Q2 n (.ptr x.1 (x.2.1+j)) (Awz w (x::A)) k=k (.agg (l.map evV)):=by
 have g:Rj w (x::A) x.1=(x.2.1,Auc arr x.2.1 x.2.2)::(A.filter fun y=>y.1 == x.1).map fun y=>(y.2.1,Auc arr y.2.1 y.2.2):=by
  rw[Ath h,List.filter_cons_of_pos (by simp)];rfl
 have a:Awm (Rj w (x::A) x.1) (x.2.1+j)=some (x.2.1,Auc arr x.2.1 x.2.2):=by
  rw[g];unfold Awm;rw[aO (show x.2.1<=x.2.1+j by omega),Aj,show Nat.ble (Nat.succ (Nat.sub (x.2.1+j) x.2.1)) (len (Auc arr x.2.1 x.2.2))=true from aO (by rw[X8,A9u];show x.2.1+j-x.2.1+1<=_;omega),Aj]
 have i:Mj (Auc arr x.2.1 x.2.2) (Nat.sub (x.2.1+j) x.2.1) n=some (l.map evV):=by
  rw[show Nat.sub (x.2.1+j) x.2.1=j by show x.2.1+j-x.2.1=_;omega,E6 (by rw[A9u];exact hj)];congr 1;apply eE;intro r;by_cases d:r<n
  ·have b:l[r]? = some (l[r]'(by omega)):=aH (by omega)
   rw[dY,aQ d,cX,Bpk (V:=l[r]'(by omega)) (by omega) (f r _ b),bA,b];rfl
  ·rw[dY,aM d,cF (by rw[bZ];omega)]
 show oB _ (Awt ((Awz w (x::A)).get x.1) (x.2.1+j) n)=_;rw[Bqm (aV ..) h];show oB _ (match Awm (Rj w (x::A) x.1) (x.2.1+j)with|some (o,l)=>Mj l (Nat.sub (x.2.1+j) o) n|none=>none)=_;rw[a];show oB _ (Mj (Auc arr x.2.1 x.2.2) (Nat.sub (x.2.1+j) x.2.1) n)=_;rw[i];rfl
theorem A2a.num(N:Nat)(k:IntKind)(n:Int):A2a N (.int k n):=⟨rfl,trivial,rfl,rfl,rfl⟩
end Go.Ev
