import Derived.Test.YtpkcfamminlmaaaGreatVb
import Derived.Test.YtpkcfamminlmaaaGreatIn
import Derived.Test.YtpkcfamminlmaaaGreatDd
set_option linter.unusedVariables false
set_option linter.unusedSimpArgs false
set_option linter.unusedSectionVars false
namespace Go.Ev
open Go.Proofs
set_option maxRecDepth 100000
variable {K:Nat}
def z8(b:Nat):EV:=.int .u8 (Int.ofNat b)
theorem Axy {b:Nat}{v2 v3:Nat}(n23:v2 ≠ v3):∀ (m i:Nat) (h:Aa),32-i<m->i<=32->HB h->h.get v2=some (.cells (List.replicate 32 (z8 0)) 87)->h.get v3=some (.cells (List.replicate i (z8 b)++List.replicate (32-i) (z8 0)) 87) ->
 Ok (Ij K m (z8 b) (.ptr v2 0) (.ptr v3 0) (I i) h) fun v h'=>v=.agg (List.replicate 32 (z8 b))/\A4 (fun j=>j=v2\/j=v3) h h'/\HB h':=by
 intro m
 induction m with
 | zero=>intro i h hm;omega
 | succ m ih=>
  intro i h hm hi hb g2 g3
  rw[Ij]
  simp only[I,Ad,Ab]
  by_cases hlt:i<32
  ·have:decide ((i:Int)<32)=true:=by simp;omega
   simp only[this,Ab,Ade]
   rw[An6 hlt]
   simp only[Ab,Nat.mul_one]
   have l3:=hb _ _ g3
   refine Ok.st1 g3 rfl rfl (by simp;omega) ?_
   simp only[Adj,Ad]
   rw[C6 (by omega) (by omega),show ((i:Nat):Int)+1=((i+1:Nat):Int) by omega]
   have hl:((List.replicate i (z8 b)++List.replicate (32-i) (z8 0)).set i (z8 b))=List.replicate (i+1) (z8 b)++List.replicate (32-(i+1)) (z8 0):=by
    rw[List.set_append_right _ _ (by simp),List.length_replicate,Nat.sub_self,show 32-i=(32-(i+1))+1 by omega,List.replicate_succ,List.set_cons_zero,List.replicate_succ',List.append_assoc];rfl
   rw[hl]
   refine(ih (i+1) _ (by omega) (by omega) (hb.put l3 _) (by rw[Ar _ (Ne.symm n23)];exact g2) (Aj _ _ _)).mono ?_
   rintro v h' ⟨rfl,c,hb'⟩
   exact⟨rfl,((A4.refl (S:=fun j=>j=v2\/j=v3) h).A8 (.inl (.inr rfl)) l3 _).trans c,hb'⟩
  ·have:decide ((i:Int)<32)=false:=by simp;omega
   have hi':i=32:=by omega
   subst hi'
   simp only[this,Ab,Wy]
   rw[F4 g3 rfl,Av (n:=32) (by simp)]
   simp only[Ab]
   have l2:=hb _ _ g2
   refine Ok.st (List.replicate 32 (z8 b)) g2 rfl rfl (Cd rfl) ?_
   rw[X4 (Aj _ _ _) A5m.1 A5m.2 rfl]
   exact .ret ⟨rfl,(A4.refl (S:=fun j=>j=v2\/j=v3) h).A8 (.inl (.inl rfl)) l2 _,hb.put l2 _⟩
theorem A26(hK:100<K)(b:Nat){h:Aa}(hb:HB h):Ok (Uk K (z8 b) h) fun v h'=>v=.agg (E2 (List.replicate 32 b))/\Ext h h'/\HB h':=by
 simp only[Uk,Ab]
 rw[show (h.new (.cells (List.replicate 32 (EV.int .u8 0)) 87)).next=h.next+1 from rfl]
 have x1:Ext h ((h.new (.cells (List.replicate 32 (EV.int .u8 0)) 87)).new (.cells (List.replicate 32 (EV.int .u8 0)) 87)):=(A4.new _ _).Hy _
 have g2:((h.new (.cells (List.replicate 32 (EV.int .u8 0)) 87)).new (.cells (List.replicate 32 (EV.int .u8 0)) 87)).get h.next=some (.cells (List.replicate 32 (z8 0)) 87):=by
  rw[Bm _ (Nat.lt_succ_self _)];exact Ae _ _
 have g3:((h.new (.cells (List.replicate 32 (EV.int .u8 0)) 87)).new (.cells (List.replicate 32 (EV.int .u8 0)) 87)).get (h.next+1)=some (.cells (List.replicate 0 (z8 b)++List.replicate (32-0) (z8 0)) 87):=Ae _ _
 refine(Axy (K:=K) (b:=b) (v2:=h.next) (v3:=h.next+1) (by omega) K 0 _ (by omega) (by omega) (x1.hb hb) g2 g3).mono ?_
 rintro v h' ⟨rfl,c,hb'⟩
 refine⟨?_,x1.then c fun i hi hl=>?_,hb'⟩
 ·unfold E2;rw[List.map_replicate];rfl
 ·rcases hi with hi|hi <;> omega
end Go.Ev

namespace Go.Ev
open Go.Proofs
set_option maxRecDepth 100000
def Np(i:Nat):En:=⟨3,(i:Int)+1,1,0,0,0,List.replicate 32 (i % 256)⟩
theorem Aqo(i:Nat):(Np i).Wf:=⟨by simp[Np],fun b hb=>by rw[List.eq_of_mem_replicate hb];omega⟩
theorem Ayy {α:Type}{l:List α}{i:Nat}{x:α}(h:l[i]? = some x):i<l.length:=(List.getElem?_eq_some_iff.1 h).1
end Go.Ev

namespace Go.Ev
open Go.Proofs
set_option maxRecDepth 100000
variable {K:Nat}{disp:Nat->Option FT}
theorem Ain.Ho {h:Aa}{v:EV}{b:Nat}{l:List Int}(r:Ain h v b l)(k:EV->R):Ev.Ho v k=k (I l.length):=by
 rcases r.row with ⟨rfl,rfl⟩|⟨off,r',op,rfl,_⟩ <;> rfl
theorem Ain.at {h:Aa}{v:EV}{b:Nat}{l:List Int}(r:Ain h v b l){j:Nat}(hj:j<l.length)(k:EV->R):Ix 1 v (I j) (fun p=>Am p h k)=k (I l[j]):=by
 rcases r.row with ⟨rfl,rfl⟩|⟨off,r',op,rfl,y⟩
 ·exact absurd hj (Nat.not_lt_zero _)
 ·unfold I;rw[Wu hj,Nat.mul_one];exact y j hj k
theorem H4.A57 {T:Nat->Prop}{h h':Aa}{m:Nat}{S:Mi}{F:Nat->Prop}(M:H4 h m S F)(c:A4 T h h')(t:∀ i,T i->i<h.next->F i):H4 h' m S (Bc F h h'):=by
 refine⟨(M.s.frame c.next fun i hi=>c.get i hi.1 fun y=>hi.2 (t i y hi.1)).mono (fun i hi=>⟨Nat.lt_of_lt_of_le hi.1 c.next,fun y=>?_⟩) fun i hi=>hi.1,Bc.lt M.lt c.next,M.wf⟩
 rcases y with y|y
 ·exact hi.2 y
 ·have:=hi.1;omega
theorem Awq {n:Nat}:∀ (l:List (List EV)) (j:Nat) (x:List EV),(∀ x ∈ l,x.length=n)->l[j]? = some x->Oh l.flatten (j*n) n=some x:=by
 have len:∀ l:List (List EV),(∀ x ∈ l,x.length=n)->l.flatten.length=l.length*n:=fun l=>by
  induction l with
  | nil=>intro _;simp
  | cons a r ih=>intro h;rw[List.flatten_cons,List.length_append,h a (List.mem_cons_self ..),ih fun x hx=>h x (List.mem_cons_of_mem _ hx),List.length_cons,Nat.succ_mul];omega
 intro l j x hl hx
 have hj:=Ayy hx
 rw[Im (by rw[len l hl];have:=Nat.mul_le_mul_right n (show j+1<=l.length from hj);rw[Nat.succ_mul]at this;exact this)]
 congr 1
 induction l generalizing j with
 | nil=>cases hx
 | cons a r ih=>
  have ha:=hl a (List.mem_cons_self ..)
  cases j with
  | zero=>
   rw[List.getElem?_cons_zero]at hx;cases hx
   rw[Nat.zero_mul,List.drop_zero,List.flatten_cons,<-ha,List.take_left]
  | succ j=>
   rw[List.getElem?_cons_succ]at hx
   rw[List.flatten_cons,Nat.succ_mul,show j*n+n=a.length+j*n by omega,<-List.drop_drop,List.drop_left]
   exact ih j (fun x hx=>hl x (List.mem_cons_of_mem _ hx)) hx (Ayy hx)
theorem w8 {i:Nat}(h:i<256):Cv .u8 (i:Int)=(i:Int):=by
 show Ao (Nat.ble (Nat.succ i) 256) (Int.ofNat i) _=_
 rw[Nat.ble_eq_true_of_le h,Ai];rfl
theorem Axh(i:Nat):Uw (Gk [(0,1),(1,1),(2,1),(3,1),(4,1),(5,1),(6,32)]) [(0,I 3),(1,I ((i:Int)+1)),(2,I 1),(6,.agg (E2 (List.replicate 32 (i % 256))))] (List.replicate 6 (.int .i64 0)++List.replicate 32 (.int .u8 0))=some (Np i).cells:=rfl
theorem Ok.A69 {h:Aa}{i:Nat}{z:List EV}{kk:Aa->R}{Q:EV->Aa->Prop}(x:Me)(hg:h.get i=some (.cells z 83))(hz:z.length=6)(hk:Ok (kk (h.put i (.cells x.cells 83))) Q):Ok (Jf 6 (.ptr i 0) (.agg x.cells) h kk) Q:=by
 have hl:x.cells.length=6:=rfl
 generalize x.cells=xs at hk hl ⊢
 exact Ok.st xs hg rfl (by show Je xs=6;rw[Ch,hl]) (Cd (by show z.length=xs.length;rw[hl,hz])) hk
def F1(n0 q:Nat):Nat->Prop:=fun i=>i<n0\/i=q
section
variable (A:Au disp)(hK:10000<K){d:Nat}(hd:22<=d){m:Nat}{h0:Aa}{n0:Nat}{zv kv:EV}{zb kb:Nat}{zl kl:List Int}(hz:Ain h0 zv zb zl)(hk:Ain h0 kv kb kl)(lz:zb<n0)(lk:kb<n0)(l0:n0<=h0.next)
include A hK hd
end
end Go.Ev

namespace Go.Ev
open Go.Proofs
set_option maxRecDepth 100000
structure Hm(S:Mi)(L:List Me):Prop where
 wf:S.Wf
 nd:∀ d,d<S.g.D.toNat->(S.ps d).Nodup
 opn:S.a = -1\/(¬ De S.g S.a=De S.g S.b/\0<=S.u/\S.u<=S.g.S/\∀ d,d<S.g.D.toNat->S.a ∉ S.ps d/\S.b ∉ S.ps d)
 pl:∀ y ∈ L,0<=y.off/\∀ z,z=y.A2\/z=y.Dm->0<=De S.g z/\(∀ d,d<S.g.D.toNat->z ∉ S.ps d)/\(¬ S.a = -1->(z=S.a\/z=S.b)->y.off<S.u)
theorem Hm.congr {S T:Mi}{L:List Me}(A:Hm S L)(g:T.g=S.g)(bad:T.bad=S.bad)(a:T.a=S.a)(b:T.b=S.b)(u:T.u=S.u)(ps:T.ps=S.ps):Hm T L:=by
 obtain⟨g',dr',ps',bad',a',b',u'⟩:=T
 simp only at g bad a b u ps
 subst g bad a b u ps
 exact⟨{ toWp:=⟨A.wf.sm,A.wf.ps⟩,op:=A.wf.op },A.nd,A.opn,A.pl⟩
theorem Asy {g:Gm}{ps:Nat->List Int}{z:Int}(nd:∀ d,d<g.D.toNat->(ps d).Nodup):∀ d,d<g.D.toNat->((Rr g g.D.toNat ps z).2 d).Nodup:=fun d hd=>by
 unfold Rr
 split
 ·exact nd d hd
 ·split
  ·exact nd d hd
  ·rename_i h0 hh
   split
   ·simp only[upd]
    split
    ·rename_i e
     rw[List.nodup_append]
     refine⟨by rw[<-e];exact nd d hd,by simp,fun a ha b hb y=>?_⟩
     rw[List.mem_singleton.1 hb]at y
     subst y
     exact hh (Agv.2 ⟨d,hd,by rw[e];exact ha⟩)
    ·exact nd d hd
   ·exact nd d hd
theorem Az1 {g:Gm}{n:Nat}{ps:Nat->List Int}{z x:Int}{d:Nat}(h:x ∈ (Rr g n ps z).2 d):x ∈ ps d\/x=z:=by
 unfold Rr at h
 split at h
 ·exact .inl h
 ·split at h
  ·exact .inl h
  ·split at h
   ·simp only[upd]at h
    split at h
    ·rename_i e
     rcases List.mem_append.1 h with h|h
     ·exact .inl (by rw[e];exact h)
     ·exact .inr (List.mem_singleton.1 h)
    ·exact .inl h
   ·exact .inl h
theorem Hm.Afr {S:Mi}{L:List Me}(A:Hm S L)(ha:S.a = -1){z:Int}(hb:0<=De S.g z->¬ S.bad z.toNat=1)(hz:∀ y ∈ L,¬ z=y.A2/\¬ z=y.Dm):Hm { S with ps:=(Rr S.g S.g.D.toNat S.ps z).2 } L:=by
 have w:=A.wf.Afr hb
 refine⟨{ toWp:=⟨w.sm,w.ps⟩,op:=w.op },Asy A.nd,.inl ha,fun y hy=>⟨(A.pl y hy).1,fun x hx=>⟨((A.pl y hy).2 x hx).1,fun d hd hm=>?_,fun h=>absurd ha h⟩⟩⟩
 rcases Az1 hm with h|h
 ·exact((A.pl y hy).2 x hx).2.1 d hd h
 ·subst h
  have:=hz y hy
  rcases hx with hx|hx
  ·exact this.1 hx
  ·exact this.2 hx
theorem Hm.leave {S:Mi}{L:List Me}(A:Hm S L)(ha:S.a = -1){z u:Int}(hz:u=0->∀ y ∈ L,¬ z=y.A2/\¬ z=y.Dm):Hm (S.leave z u).1 L:=by
 unfold Mi.leave
 split
 ·exact A
 ·rename_i h
  split
  ·rename_i h0
   refine A.Afr ha (fun hd hb=>h (.inr (.inl ?_))) (hz h0)
   unfold Mi.Uj
   rw[decide_eq_true hd,decide_eq_true hb];rfl
  ·exact A.congr rfl rfl rfl rfl rfl rfl
theorem Hm.mark {S:Mi}{L:List Me}(A:Hm S L){z:Int}(hz:0<=De S.g z):Hm { S.mark z with a:=-1,b:=-1,u:=0 } L:=by
 have w:=A.wf.toWp.mark hz
 have sub:∀ d,(S.dropped z d).Sublist (S.ps d):=fun d=>by
  unfold Mi.dropped
  rw[if_neg (by omega)]
  unfold upd
  split
  ·rename_i e;rw[e];exact List.filter_sublist
  ·exact List.Sublist.refl _
 refine⟨{ toWp:=⟨w.sm,w.ps⟩,op:=.inl ⟨rfl,rfl⟩ },fun d hd=>(A.nd d hd).sublist (sub d),.inl rfl,fun y hy=>⟨(A.pl y hy).1,fun x hx=>⟨((A.pl y hy).2 x hx).1,fun d hd hm=>((A.pl y hy).2 x hx).2.1 d hd ((sub d).subset hm),fun h=>absurd rfl h⟩⟩⟩
theorem Hm.Bl {S:Mi}{L:List Me}(A:Hm S L){z:Int}(hz:z=S.a\/z=S.b):Hm (S.Bl z).1 L:=by
 unfold Mi.Bl
 split
 ·exact A
 ·rename_i h0
  split
  ·exact A
  ·rw[if_neg (fun y=>hz.elim y.1 y.2)]
   have ha:¬ S.a = -1:=fun e=>by
    rcases A.wf.op with y|y
    ·rcases hz with hz|hz
     ·rw[hz,y.1]at h0;have:=T2 A.wf.sm (z:=-1) (by omega);omega
     ·rw[hz,y.2]at h0;have:=T2 A.wf.sm (z:=-1) (by omega);omega
    ·rw[e]at y
     have:=T2 A.wf.sm y.1.1
     omega
   have C:=A.mark (z:=z) (by omega)
   have key:∀ x,x=S.a\/x=S.b->S.u=0->∀ y ∈ L,¬ x=y.A2/\¬ x=y.Dm:=fun x hx h0 y hy=>by
    have h:=A.pl y hy
    refine⟨fun e=>?_,fun e=>?_⟩
    ·have:=(h.2 x (.inl e)).2.2 ha hx;have:=h.1;omega
    ·have:=(h.2 x (.inr e)).2.2 ha hx;have:=h.1;omega
   show Hm (S.mark z).close.1 L
   unfold Mi.close
   have C1:=C.leave rfl (z:=S.a) (u:=S.u) fun h0=>key _ (.inl rfl) h0
   have e1:=(Ao5 { S.mark z with a:=-1,b:=-1,u:=0 } S.a S.u).2.1
   exact C1.leave e1 (z:=S.b) (u:=S.u) fun h0=>key _ (.inr rfl) h0
theorem Hm.ready {S:Mi}{L:List Me}(A:Hm S L):Hm S.ready.1 L/\(S.ready.2=0->¬ S.ready.1.a = -1/\S.ready.1.u<S.g.S)/\(S.ready.2=0\/S.ready.2=34\/S.ready.2=40):=by
 have s0:=A.wf.sm.s0
 unfold Mi.ready
 split
 ·rename_i h;exact⟨A,fun _=>h,.inl rfl⟩
 ·rename_i h
  split
  ·rename_i hf
   refine⟨A.congr rfl rfl rfl rfl rfl rfl,fun y=>absurd y hf,.inr (.inl ?_)⟩
   revert hf
   unfold N7.flush Dv.flush
   split
   ·intro _;rfl
   ·intro y;exact absurd rfl y
  ·cases hp:Adk S.ps S.g.D.toNat with
   | none=>exact⟨A.congr rfl rfl rfl rfl rfl rfl,fun y=>by simp at y,.inr (.inr rfl)⟩
   | some t=>
    obtain⟨x,y,ps'⟩:=t
    obtain⟨i,j,hi,hj,hij,ex,ey,ek,_,_,dx,dy⟩:=Agw A.wf.ps hp
    have sub:∀ d,d<S.g.D.toNat->∀ z,z ∈ ps' d->z ∈ S.ps d/\z ≠ x/\z ≠ y:=fun d hd z hz=>by
     have nd:=A.nd d hd
     have key:z ∈ S.ps d:=by
      by_cases h1:d=i
      ·subst h1;rw[ex];exact List.mem_cons_of_mem _ hz
      ·by_cases h2:d=j
       ·subst h2;rw[ey];exact List.mem_cons_of_mem _ hz
       ·rw[<-ek d h1 h2];exact hz
     have dz:=(A.wf.ps d hd z key).1
     refine⟨key,fun y'=>?_,fun y'=>?_⟩
     ·subst y'
      have:d=i:=by omega
      subst this
      rw[ex]at nd
      exact(List.nodup_cons.1 nd).1 hz
     ·subst y'
      have:d=j:=by omega
      subst this
      rw[ey]at nd
      exact(List.nodup_cons.1 nd).1 hz
    have mx:x ∈ S.ps i:=by rw[ex];exact List.mem_cons_self ..
    have my:y ∈ S.ps j:=by rw[ey];exact List.mem_cons_self ..
    have nx:=T2 A.wf.sm (z:=x) (by omega)
    refine⟨⟨{ toWp:=⟨A.wf.sm,fun d hd z hz=>A.wf.ps d hd z (sub d hd z hz).1⟩,op:=.inr ⟨⟨by show 0<=De S.g x;omega,dx.2⟩,⟨by show 0<=De S.g y;omega,dy.2⟩⟩ },fun d hd=>?_,.inr ⟨by show ¬ De S.g x=De S.g y;omega,Int.le_refl _,by show 0<=S.g.S;omega,fun d hd=>⟨fun hz=>(sub d hd x hz).2.1 rfl,fun hz=>(sub d hd y hz).2.2 rfl⟩⟩,fun e he=>⟨(A.pl e he).1,fun z hz=>⟨((A.pl e he).2 z hz).1,fun d hd hm=>((A.pl e he).2 z hz).2.1 d hd (sub d hd z hm).1,fun _ hz'=>?_⟩⟩⟩,fun _=>⟨by show ¬ x = -1;omega,by show 0<S.g.S;omega⟩,.inl rfl⟩
    ·show (ps' d).Nodup
     have nd:=A.nd d hd
     by_cases h1:d=i
     ·subst h1;rw[ex]at nd;exact(List.nodup_cons.1 nd).2
     ·by_cases h2:d=j
      ·subst h2;rw[ey]at nd;exact(List.nodup_cons.1 nd).2
      ·rw[ek d h1 h2];exact nd
    ·exfalso
     have hz':z=x\/z=y:=hz'
     rcases hz' with h|h
     ·subst h;exact((A.pl e he).2 z hz).2.1 i hi mx
     ·subst h;exact((A.pl e he).2 z hz).2.1 j hj my
structure A06(S:Mi)(L:List Me)(x:Me)(sq sum:Int):Prop where
 st:x.state=1
 seq:x.seq=sq
 sum:x.sum=sum
 dz:0<=De S.g x.A2/\¬ S.bad x.A2.toNat=1
 dm:0<=De S.g x.Dm/\¬ S.bad x.Dm.toNat=1
 ne:¬ De S.g x.A2=De S.g x.Dm
 off:0<=x.off/\x.off<S.g.S
 far:∀ y ∈ L,y.off=x.off->¬ y.A2=x.A2/\¬ y.Dm=x.Dm/\¬ y.A2=x.Dm/\¬ y.Dm=x.A2
theorem Hm.Ti {S:Mi}{L:List Me}(A:Hm S L)(hu:0<=S.u/\S.u<S.g.S):Hm S.Ti L:=by
 have s1:=A.wf.sm.s1
 have e:S.Ti.u=S.u+1:=by show Cv .i64 (S.u+1)=_;exact C6 (by omega) (by omega)
 refine⟨{ toWp:=⟨A.wf.sm,A.wf.ps⟩,op:=A.wf.op },A.nd,?_,fun y hy=>⟨(A.pl y hy).1,fun z hz=>⟨((A.pl y hy).2 z hz).1,((A.pl y hy).2 z hz).2.1,fun h1 h2=>?_⟩⟩⟩
 ·rcases A.opn with h|⟨h1,h2,h3,h4⟩
  ·exact .inl h
  ·exact .inr ⟨h1,by rw[e];omega,by rw[e];show S.u+1<=S.g.S;omega,h4⟩
 ·have:=((A.pl y hy).2 z hz).2.2 h1 h2
  rw[e];omega
theorem Hm.A4m {S:Mi}{L:List Me}(A:Hm S L)(ha:¬ S.a = -1)(hu:S.u<S.g.S)(sq sum:Int):Hm S.Ti (L++[⟨1,S.a,S.b,S.u,sq,sum⟩])/\A06 S.Ti L ⟨1,S.a,S.b,S.u,sq,sum⟩ sq sum:=by
 obtain⟨h1,h2,h3,h4⟩:=A.opn.resolve_left ha
 have s1:=A.wf.sm.s1
 have e:S.Ti.u=S.u+1:=by show Cv .i64 (S.u+1)=_;exact C6 (by omega) (by omega)
 have T:=A.Ti ⟨h2,hu⟩
 have op:=A.wf.op.resolve_left fun y=>ha y.1
 have lt:∀ y ∈ L,∀ z,z=y.A2\/z=y.Dm->z=S.a\/z=S.b->y.off<S.u:=fun y hy z hz h=>((A.pl y hy).2 z hz).2.2 ha h
 refine⟨⟨T.wf,T.nd,T.opn,fun y hy=>?_⟩,⟨rfl,rfl,rfl,op.1,op.2,h1,⟨h2,hu⟩,fun y hy he=>?_⟩⟩
 ·rcases List.mem_append.1 hy with hy|hy
  ·exact T.pl y hy
  ·rw[List.mem_singleton.1 hy]
   refine⟨h2,fun z hz=>?_⟩
   have hz:z=S.a\/z=S.b:=hz
   refine⟨by rcases hz with rfl|rfl;exact op.1.1;exact op.2.1,fun d hd hm=>?_,fun _ _=>?_⟩
   ·rcases hz with rfl|rfl
    ·exact(h4 d hd).1 hm
    ·exact(h4 d hd).2 hm
   ·show S.u<S.Ti.u
    rw[e];omega
 ·have he:y.off=S.u:=he
  refine⟨fun h=>?_,fun h=>?_,fun h=>?_,fun h=>?_⟩
  ·have:=lt y hy _ (.inl rfl) (.inl h);omega
  ·have:=lt y hy _ (.inr rfl) (.inr h);omega
  ·have:=lt y hy _ (.inl rfl) (.inr h);omega
  ·have:=lt y hy _ (.inr rfl) (.inl h);omega
theorem Aoo {e:En}{ep sq:Int}:∀ (n:Nat) (S:Mi) (L:List Me),Afi S.bad (S.g.D*S.g.Z).toNat<n->Hm S L ->
 ((S.Iw e ep sq n).1.g=S.g)/\(((S.Iw e ep sq n).2.2=0/\Hm (S.Iw e ep sq n).1 (L++[(S.Iw e ep sq n).2.1])/\A06 (S.Iw e ep sq n).1 L (S.Iw e ep sq n).2.1 sq ((Fm e.bytes:Nat):Int)) \/
   (((S.Iw e ep sq n).2.2=34\/(S.Iw e ep sq n).2.2=40)/\Hm (S.Iw e ep sq n).1 L)):=by
 intro n
 induction n with
 | zero=>intro S L h;omega
 | succ n ih=>
  intro S L hg A
  obtain⟨R,r0,re⟩:=A.ready
  obtain⟨g1,g2⟩:=Aum S
  unfold Mi.Iw
  by_cases hr:S.ready.2=0
  ·rw[if_neg (fun y=>y hr)]
   obtain⟨ha,hu⟩:=r0 hr
   obtain⟨b1,b2,b3,b4,b5,b6,b7⟩:=A03 S.ready.1 e ep sq
   have B:=R.congr b1 b2 b3 b4 b5 b6
   have hopen:=Aka A.wf hr
   have hu0:=(R.opn.resolve_left ha).2.1
   generalize hB:S.ready.1.both e ep sq=P at b1 b2 b3 b4 b5 b6 b7 B ⊢
   by_cases h0:P.2.2=0
   ·rw[if_pos h0]
    obtain⟨p1,p2⟩:=B.A4m (by rw[b3];exact ha) (by rw[b5,b1,g1];exact hu) sq ((Fm e.bytes:Nat):Int)
    exact⟨b1.trans g1,.inl ⟨rfl,p1,p2⟩⟩
   ·rw[if_neg h0]
    by_cases h34:P.2.2=34
    ·rw[if_pos h34]
     exact⟨b1.trans g1,.inr ⟨.inl rfl,B⟩⟩
    ·rw[if_neg h34]
     obtain⟨n1,n2,n3,n4⟩:=Avr P
     have N:Hm (Mi.Gp P) L:=by
      unfold Mi.Gp
      split
      ·exact B.Ti ⟨by rw[b5];exact hu0,by rw[b5,b1,g1];exact hu⟩
      ·exact B
     have hz:P.2.1=(Mi.Gp P).a\/P.2.1=(Mi.Gp P).b:=by
      rw[n3,n4,b3,b4];exact b7
     have Qa:=N.Bl hz
     have gq:=Afh (Mi.Gp P) P.2.1
     have gg:((Mi.Gp P).Bl P.2.1).1.g=S.g:=gq.trans (n1.trans (b1.trans g1))
     by_cases hq:((Mi.Gp P).Bl P.2.1).2=34
     ·rw[if_pos hq]
      exact⟨gg,.inr ⟨.inl rfl,Qa⟩⟩
     ·rw[if_neg hq]
      have hgood:0<=De (Mi.Gp P).g P.2.1/\¬ (Mi.Gp P).bad P.2.1.toNat=1:=by
       rw[n1,n2,b1,b2]
       rcases b7 with h|h
       ·rw[h];exact hopen.1
       ·rw[h];exact hopen.2
      have less:=Zw N.wf hgood.1 hgood.2
      have e1:(Mi.Gp P).g=S.g:=n1.trans (b1.trans g1)
      have e2:(Mi.Gp P).bad=S.bad:=n2.trans (b2.trans g2)
      obtain⟨i1,i2⟩:=ih ((Mi.Gp P).Bl P.2.1).1 L (by rw[gg];rw[e1,e2]at less;omega) Qa
      exact⟨i1.trans gg,i2⟩
  ·rw[if_pos hr]
   exact⟨g1,.inr ⟨re.resolve_left hr,R⟩⟩
theorem A3g {i:Nat}(hi:i<=1000):EOk (Np i) 1 ((i:Int)+1):=by
 have h1:erB (Np i)=true:=by
  unfold erB Afz Np
  have:wi ((i:Int)+1) 0 281474976710655=true:=Iy.2 ⟨by omega,by omega⟩
  simp only[this];rfl
 have h2:frB ⟨(Np i).kind,0,0,1,(i:Int)+1,(Fh (Np i)).1⟩=true:=by
  unfold frB Np
  have:wi ((i:Int)+1) 0 281474976710655=true:=Iy.2 ⟨by omega,by omega⟩
  simp only[this];rfl
 unfold EOk G2
 rw[if_pos ⟨h1,h2,Int.le_refl _,by show (i:Int)+1-1<(i:Int)+1;omega⟩]
theorem Ap5 {S:Mi}{L:List Me}(A:Hm S L){i:Nat}(hi:i<=1000):
 ((S.place (Np i) 1 ((i:Int)+1)).1.g=S.g)/\(((S.place (Np i) 1 ((i:Int)+1)).2.2=0/\Hm (S.place (Np i) 1 ((i:Int)+1)).1 (L++[(S.place (Np i) 1 ((i:Int)+1)).2.1])/\A06 (S.place (Np i) 1 ((i:Int)+1)).1 L (S.place (Np i) 1 ((i:Int)+1)).2.1 ((i:Int)+1) ((Fm (Np i).bytes:Nat):Int)) \/
   (((S.place (Np i) 1 ((i:Int)+1)).2.2=34\/(S.place (Np i) 1 ((i:Int)+1)).2.2=40)/\Hm (S.place (Np i) 1 ((i:Int)+1)).1 L)):=by
 unfold Mi.place
 rw[if_neg (fun y=>y (A3g hi))]
 refine Aoo 1000 S L ?_ A
 have s:=A.wf.sm
 have:=s.d0;have:=s.d1;have:=s.z0;have:=s.z1
 obtain⟨m0,m1⟩:=Un (a:=S.g.D) (b:=S.g.Z) (A:=8) (B:=64) (by omega) (by omega) (by omega) (by omega)
 have:=Ar8 S.bad (S.g.D*S.g.Z).toNat
 omega
theorem A06.right {S:Mi}{L:List Me}{x:Me}{i:Nat}(p:A06 S L x ((i:Int)+1) ((Fm (Np i).bytes:Nat):Int))(hi:i<=1000)(hr:rtB S.g=true):meB S.g x=true:=by
 have sm:=Adr hr
 have hold:∀ z,0<=De S.g z->Ya S.g z x.off=true:=fun z hz=>by
  unfold Ya
  have h1:wi z 0 (S.g.D*S.g.Z-1)=true:=Iy.2 (by rcases Wg sm z with y|⟨_,_,_,y1,y2⟩ <;> omega)
  have h2:wi x.off 0 (S.g.S-1)=true:=Iy.2 ⟨p.off.1,by have:=p.off.2;omega⟩
  rw[hr,h1,h2];rfl
 unfold meB
 have hs:=A0j (Aqo i).u8
 rw[hold _ p.dz.1,hold _ p.dm.1,decide_eq_true p.ne,p.seq,p.sum,decide_eq_true (by omega:(1:Int)<=(i:Int)+1),decide_eq_true (by omega:(i:Int)+1<=281474976710655),decide_eq_true (by omega:(0:Int)<=((Fm (Np i).bytes:Nat):Int)),decide_eq_true (by omega:((Fm (Np i).bytes:Nat):Int)<=4294967295)]
 rfl
end Go.Ev

namespace Go.Ev
open Go.Proofs
set_option maxRecDepth 100000
variable {K:Nat}{disp:Nat->Option FT}
theorem F6.Cb {e:F6}(w:e.Wf):e.cells.length=68:=by
 unfold F6.cells;rw[List.length_append,w.len];rfl
theorem Ar9 {h:Aa}(e:F6):Ok (Kt K (.agg e.cells) h) fun v h'=>(∃ b:Bool,v=.bool b)/\Ext h h':=by
 simp only[Kt,Ab]
 have x1:Ext h (h.new (.cells e.cells 105)):=A4.new _ _
 have g1:(h.new (.cells e.cells 105)).get h.next=some (.cells e.cells 105):=Ae _ _
 generalize h.new (.cells e.cells 105)=h1 at x1 g1 ⊢
 rw[Ce g1 rfl (v:=I e.Rp) rfl]
 simp only[I,Ad]
 by_cases h1:e.Rp ≥ 0
 ·simp only[h1,decide_true,Ab]
  rw[Ce g1 rfl (v:=I e.kind) rfl]
  simp only[I,Ad,Ki]
  by_cases h2:e.kind ≥ 1
  ·simp only[h2,decide_true,Ab,Ad]
   rw[Ce g1 rfl (v:=I e.kind) rfl]
   simp only[I,Ad,H7,Ab]
   exact .ret ⟨⟨_,rfl⟩,x1⟩
  ·simp only[h2,decide_false,Ab,Ad,H7]
   exact .ret ⟨⟨_,rfl⟩,x1⟩
 ·simp only[h1,decide_false,Ab,Ad,Ki,H7]
  exact .ret ⟨⟨_,rfl⟩,x1⟩
theorem Yx {L:List F6}(hw:∀ e ∈ L,e.Wf):∀ x ∈ L.map F6.cells,x.length=68:=fun x hx=>by
 obtain⟨e,he,rfl⟩:=List.mem_map.1 hx;exact F6.Cb (hw e he)
theorem A7j {L:List F6}(hw:∀ e ∈ L,e.Wf){j:Nat}(hj:j<L.length):(L.map F6.cells).flatten[j*68]? = some (I L[j].Rp):=by
 obtain⟨e,h1,h2⟩:=Abx (n:=68) (Yx hw) (j:=j) (by rw[List.length_map];exact hj)
 rw[e,List.append_assoc,List.getElem?_append_right (by omega),h1,Nat.sub_self,List.getElem_map,List.getElem?_append_left (by rw[F6.Cb (hw _ (List.getElem_mem hj))];omega)]
 rfl
theorem A2v {L:List F6}(hw:∀ e ∈ L,e.Wf){i:Nat}(hi:i<=L.length):(L.map F6.cells).flatten.take (i*68)=((L.take i).map F6.cells).flatten/\(L.map F6.cells).flatten.drop (i*68)=((L.drop i).map F6.cells).flatten:=by
 have e:(L.map F6.cells).flatten=((L.take i).map F6.cells).flatten++((L.drop i).map F6.cells).flatten:=by
  rw[<-List.flatten_append,<-List.map_append,List.take_append_drop]
 have hl:((L.take i).map F6.cells).flatten.length=i*68:=by
  rw[Pe (n:=68) _ (Yx fun e he=>hw e (List.mem_of_mem_take he)),List.length_map,List.length_take,Nat.min_eq_left hi]
 rw[e,<-hl,List.take_left,List.drop_left]
 exact⟨rfl,rfl⟩
theorem A2c {h:Aa}{s:EV}{q j i:Nat}{L:List F6}{e:F6}(row:B0 h s q 105 68 L.length (L.map F6.cells).flatten)(hw:∀ e ∈ L,e.Wf)(w:e.Wf)(hj:h.get j=some (.cells e.cells 105))(hi:i<=L.length)(hl:L.length<=1000):
 ∃ h',Axu s (i:Int) j h=some (.slice h.next 0 (L.length+1) (L.length+1) true,h')/\B0 h' (.slice h.next 0 (L.length+1) (L.length+1) true) h.next 105 68 (L.length+1) ((L.take i++[e]++L.drop i).map F6.cells).flatten/\h'.next=h.next+1/\A4 (fun k=>0<L.length/\k=q) h h':=by
 have el:=F6.Cb w
 have fl:((L.take i++[e]++L.drop i).map F6.cells).flatten=((L.take i).map F6.cells).flatten++e.cells++((L.drop i).map F6.cells).flatten:=by
  simp only[List.map_append,List.flatten_append,List.map_cons,List.map_nil,List.flatten_cons,List.flatten_nil,List.append_nil]
 have hlen:((L.take i++[e]++L.drop i).map F6.cells).flatten.length=(L.length+1)*68:=by
  rw[Pe (n:=68) _ (Yx fun x hx=>?_)]
  ·rw[List.length_map];simp only[List.length_append,List.length_take,List.length_drop,List.length_singleton];omega
  ·rcases List.mem_append.1 hx with hx|hx
   ·rcases List.mem_append.1 hx with hx|hx
    ·exact hw x (List.mem_of_mem_take hx)
    ·rw[List.mem_singleton.1 hx];exact w
   ·exact hw x (List.mem_of_mem_drop hx)
 have nil:L.length=0->((L.take i++[e]++L.drop i).map F6.cells).flatten=e.cells/\i=0:=fun h0=>by
  have:=List.length_eq_zero_iff.1 h0
  subst this
  obtain rfl:i=0:=by simpa using hi
  exact⟨by simp,rfl⟩
 rcases row with ⟨h0,_,hs⟩|⟨hp,rfl,hq,hlq⟩
 ·obtain⟨n1,rfl⟩:=nil h0
  have res:Axu s ((0:Nat):Int) j h=some (.slice h.next 0 1 1 true,h.new (.vec e.cells 105 68)):=by
   unfold Axu
   rw[hj]
   rcases hs with rfl|⟨b,rfl⟩
   ·simp[el]
   ·simp[el]
  refine⟨_,by rw[h0];exact res,.inr ⟨by omega,rfl,?_,hlen⟩,rfl,A4.new _ _⟩
  rw[n1];exact Ae _ _
 ·obtain⟨t1,t2⟩:=A2v hw hi
  refine⟨(h.del q).new (.vec (((L.take i++[e]++L.drop i).map F6.cells).flatten) 105 68),?_,.inr ⟨by omega,rfl,?_,hlen⟩,rfl,(A4.del h (.inl ⟨hp,rfl⟩)).trans (A4.new _ _)⟩
  ·unfold Axu
   rw[hj]
   simp only[el,true_and,hq]
   rw[if_pos (by omega),if_pos ⟨hlq,by omega,hl⟩,Int.toNat_natCast,t1,t2,fl]
  ·rw[show h.next=(h.del q).next from rfl,Ae]
theorem Aws {c r:Ac}{h:Aa}{D V M qc v3:Nat}{cs hs:EV}{L:List F6}{e:F6}(hd:h.get D=some (.cells [.ptr V 0,cs,hs,.map M] 166))(row:B0 h cs qc 105 68 L.length (L.map F6.cells).flatten)(hw:∀ e ∈ L,e.Wf)(g3:h.get v3=some (.cells e.cells 105))(hl:L.length<=1000){Q:EV->Aa->Prop}
 (hk:∀ i:Nat,i<=L.length->Ok (Lt c r K (.ptr D 0) (.ptr v3 0) (I i) h) Q):∀ (f i:Nat),i<f->i<=L.length->Ok (Di c r K f (.ptr D 0) (.ptr v3 0) (I i) h) Q:=by
 intro f
 induction f with
 | zero=>intro i hf;omega
 | succ f ih=>
  intro i hf hi
  rw[Di]
  simp only[I,Ad]
  by_cases h0:i=0
  ·subst h0
   simp only[show decide (((0:Nat):Int) > 0)=false from rfl,Ab,Ad,Le]
   exact hk 0 (by omega)
  ·have e3:decide ((i:Int) > 0)=true:=by simp;omega
   simp only[e3,Ab]
   rw[Ce hd rfl (v:=cs) rfl]
   try simp only[Ad]
   rw[C6 (by omega) (by omega),show (i:Int)-1=((i-1:Nat):Int) by omega,row.ix (by omega)]
   simp only[Ab,Nat.add_zero]
   rw[Ce (row.block (by omega)) rfl (A7j hw (j:=i-1) (by omega)),Ce g3 rfl (v:=I e.Rp) rfl]
   simp only[I,Ad,Le,Ab]
   by_cases h1:L[i-1].Rp > e.Rp
   ·simp only[h1,decide_true,Ab,Ad,Ui]
    rw[C6 (by omega) (by omega),show (i:Int)-1=((i-1:Nat):Int) by omega]
    exact ih (i-1) (by omega) (by omega)
   ·simp only[h1,decide_false,Ab,Ad]
    exact hk i hi
theorem Ap2(A:Au disp)(H91:disp 91=some Ast)(hK:10000<K){d:Nat}(hd:2<=d){h:Aa}{D:Nat}{S:N7}{G:Nat->Prop}(s:Ek h D S G)(hb:HB h){e:F6}(w:e.Wf)(hl:S.ev.length+S.Of.length<=199):
 Ok (Af TT disp K d false 42 [.ptr D 0,.agg e.cells] h) fun _ h'=>∃ l:List F6,l.length<=S.ev.length+1/\Ek h' D { S with ev:=l } (Bc G h h')/\A4 G h h'/\HB h':=by
 obtain⟨e',rfl⟩:∃ k,d=k+2:=⟨d-2,by omega⟩
 rw[Ac4 A (by omega)]
 have el:=F6.Cb w
 simp only[Z0,Ab]
 have x1:Ext h (h.new (.cells e.cells 105)):=A4.new _ _
 have g1:(h.new (.cells e.cells 105)).get h.next=some (.cells e.cells 105):=Ae _ _
 generalize h.new (.cells e.cells 105)=h1 at x1 g1 ⊢
 have hb1:=x1.hb hb
 rw[Kg g1 rfl (Av el)]
 try simp only[Ab]
 refine(Ar9 (K:=K) e).Al ?_
 rintro _ h2 ⟨⟨bb,rfl⟩,x2⟩
 have hb2:=x2.hb hb1
 have x12:Ext h h2:=x1.trans x2
 have s2:=s.ext x12
 have no:∀ v,Ok (some (v,h2)) fun _ h'=>∃ l:List F6,l.length<=S.ev.length+1/\Ek h' D { S with ev:=l } (Bc G h h')/\A4 G h h'/\HB h':=fun v=>
  .ret ⟨S.ev,Nat.le_succ _,s2.grow s.lt x12.next,Ext.to x12,hb2⟩
 cases bb with
 | false=>
  simp only[Ab,Ad]
  exact no _
 | true=>
  obtain⟨V,M,qc,qh,cs,hs,ms,F,b⟩:=s2.Rp
  have g3:=x2.at hb1 g1
  have Rl:=s.wf
  simp only[Ab,Ad]
  rw[Ce b.Ct rfl (v:=cs) rfl,b.E4.Ho]
  simp only[Ad]
  have e5:decide ((S.ev.length:Int) ≥ 256)=false:=by simp;omega
  simp only[e5,Ab,Ua]
  rw[Ce b.Ct rfl (v:=cs) rfl,b.E4.Ho]
  refine Aws (K:=K) b.Ct b.E4 Rl.wf g3 (by omega) ?_ K S.ev.length (by omega) (Nat.le_refl _)
  intro i hi
  simp only[Lt,Ab,Bo]
  have lD:=hb2 _ _ b.Ct
  have l3:=hb2 _ _ g3
  rw[Aq lD (by kernel_rfl),Ce b.Ct rfl (v:=cs) rfl]
  try simp only[Ab,Bo]
  rw[Aq l3 (by kernel_rfl),Kg g3 rfl (Av el)]
  try simp only[Ab,Bo]
  rw[Wd (v:=.agg e.cells) rfl (by simp) (show ((EV.agg e.cells).cells).length=68 from el) (by omega),Bf]
  have x6:Ext h2 (h2.new (.cells (EV.agg e.cells).cells 105)):=A4.new _ _
  have g6:(h2.new (.cells (EV.agg e.cells).cells 105)).get h2.next=some (.cells e.cells 105):=Ae _ _
  have n6:(h2.new (.cells (EV.agg e.cells).cells 105)).next=h2.next+1:=rfl
  generalize (h2.new (.cells (EV.agg e.cells).cells 105))=h6 at x6 g6 n6 ⊢
  have hb6:=x6.hb hb2
  have row6:=b.E4.frame (h':=h6.lift) fun y=>by rw[Dg];exact x6.get _ (hb2 _ _ (b.E4.block y)) id
  obtain⟨h7',e7,r7,n7,c7⟩:=A2c (i:=i) row6 Rl.wf w (by rw[Dg];exact g6) hi (by omega)
  have call:Af TT disp K (e'+1) false 91 [cs,I i,.slice h2.next 0 1 1 false] h6.lift=some (.slice h6.lift.next 0 (S.ev.length+1) (S.ev.length+1) true,h7'):=by
   rw[Abz H91];exact e7
  refine Ok.Amo (S:=fun k=>0<S.ev.length/\k=qc) (by kernel_rfl) (by kernel_rfl) (fun _=>by kernel_rfl) (P:=fun v h'=>v=.slice h6.lift.next 0 (S.ev.length+1) (S.ev.length+1) true/\h'=h7') ⟨_,_,call,rfl,rfl⟩ (fun _ _ p=>by rw[p.2];exact c7) ?_
  rintro _ _ h7 s' ⟨rfl,rfl⟩ sm c67 hs'
  have hb7:=c67.hb hb6
  have r7:=r7.frame (h':=h7) fun _=>sm.get _
  have nDq:0<S.ev.length->D ≠ qc:=fun y e=>by
   have:=b.E4.block y
   rw[<-e,b.Ct]at this
   cases this
  have gD:=c67.at hb6 (x6.at hb2 b.Ct) fun y=>nDq y.1 y.2
  have lD7:=hb7 _ _ gD
  try simp only[Ab,Bo]
  rw[Rd (by rcases hs' with rfl|⟨w,rfl,_⟩ <;> kernel_rfl)]
  refine Ok.st1 gD rfl rfl (by show 1<4;decide) ?_
  have l6:h6.lift.next=h6.next:=rfl
  rw[l6]at r7 n7
  have nh7:h7.next=h6.next+1:=by rw[sm.next,n7]
  have l7:=hb7 _ _ (r7.block (by omega))
  have p8:A4 (fun j=>j=D) h7 (h7.put D (.cells ([EV.ptr V 0,cs,hs,.map M].set 1 (.slice h6.lift.next 0 (S.ev.length+1) (S.ev.length+1) true)) 166)):=(A4.refl (S:=fun j=>j=D) h7).A8 (.inl rfl) lD7 _
  have gD8:(h7.put D (.cells ([EV.ptr V 0,cs,hs,.map M].set 1 (.slice h6.lift.next 0 (S.ev.length+1) (S.ev.length+1) true)) 166)).get D=some (.cells [.ptr V 0,.slice h6.next 0 (S.ev.length+1) (S.ev.length+1) true,hs,.map M] 166):=Aj _ _ _
  have hb8:=p8.hb hb7
  generalize h7.put D _=h8 at p8 gD8 hb8 ⊢
  have c28:A4 (fun k=>k=D\/(0<S.ev.length/\k=qc)) h2 h8:=((Ext.to x6).trans (c67.mono fun k hk=>.inr hk)).trans (p8.mono fun k hk=>.inl hk)
  have t1:=x12.next
  have t2:=x6.next
  have t3:=c28.next
  have c08:A4 G h h8:=x12.to.then c28 fun k hk hl=>by
   rcases hk with rfl|⟨y,rfl⟩
   ·exact b.sub.2.1
   ·exact b.sub.2.2.2.1 y
  have keep:∀ k o,h2.get k=some o->k ≠ D->(0<S.ev.length->k ≠ qc)->h8.get k=some o:=fun k o g n1 n2=>c28.at hb2 g fun y=>y.elim n1 fun z=>n2 z.1 z.2
  have len':(S.ev.take i++[e]++S.ev.drop i).length=S.ev.length+1:=by
   simp only[List.length_append,List.length_take,List.length_drop,List.length_singleton];omega
  have nq8:¬ h6.next=D:=by omega
  have Gl:∀ k,G k->k<h6.next:=fun k hk=>by have:=s.lt k hk;omega
  refine .ret ⟨S.ev.take i++[e]++S.ev.drop i,by omega,⟨Bc.lt s.lt c08.next,⟨by show (S.ev.take i++[e]++S.ev.drop i).length+S.Of.length<=200;omega,fun x hx=>?_,Rl.Rl⟩,V,M,h6.next,qh,.slice h6.next 0 (S.ev.length+1) (S.ev.length+1) true,hs,ms,F,?_⟩,c08,hb8⟩
  ·rcases List.mem_append.1 hx with hx|hx
   ·rcases List.mem_append.1 hx with hx|hx
    ·exact Rl.wf x (List.mem_of_mem_take hx)
    ·rw[List.mem_singleton.1 hx];exact w
   ·exact Rl.wf x (List.mem_of_mem_drop hx)
  ·refine⟨gD8,?_,b.marks,?_,?_,?_,⟨fun k hk=>.inl (b.sub.1 k hk),.inl b.sub.2.1,.inl b.sub.2.2.1,fun _=>.inr ⟨by omega,by have:=p8.next;omega⟩,fun y=>.inl (b.sub.2.2.2.2 y)⟩,⟨b.apart.1,b.apart.2.1,fun _ y=>by have:=Gl _ (b.sub.1 _ y);omega,b.apart.2.2.2.1,fun _ y=>by have:=Gl _ (b.sub.2.2.2.2 y);omega⟩⟩
   ·refine keep _ _ b.map (fun y=>?_) fun y z=>?_
    ·rw[y]at b;have:=b.map;rw[b.Ct]at this;cases this
    ·have h1:=b.E4.block y;rw[<-z,b.map]at h1;cases h1
   ·show B0 h8 _ h6.next 105 68 (S.ev.take i++[e]++S.ev.drop i).length _
    rw[len']
    exact r7.frame fun _=>p8.get _ l7 nq8
   ·refine b.Aaz.frame fun y=>?_
    have g:=b.Aaz.block y
    rw[keep _ _ g (fun z=>?_) fun z1 z2=>b.apart.2.2.2.2 z1 y z2.symm,g]
    rw[z,b.Ct]at g;cases g
   ·refine b.dev.frame c28.next fun k hk=>c28.get k (b.dev.lt k hk) fun z=>?_
    rcases z with rfl|⟨z1,rfl⟩
    ·exact b.apart.1 hk
    ·exact b.apart.2.2.1 z1 hk
end Go.Ev

namespace Go.Ev
open Go.Proofs
set_option maxRecDepth 100000
variable {K:Nat}{disp:Nat->Option FT}
structure Adf(h:Aa)(v:EV)(b:Nat)(l:List F6):Prop where
 row:(v=.Ag/\l = [])\/∃ off r op,v=.slice b off l.length r op/\∀ j (hj:j<l.length) (k:EV->R),B8 68 (.ptr b (off+j*68)) h k=k (.agg l[j].cells)
 wf:∀ e ∈ l,e.Wf
theorem Adf.frame {h h':Aa}{v:EV}{b:Nat}{l:List F6}(r:Adf h v b l)(e:h'.get b=h.get b):Adf h' v b l:=by
 refine⟨?_,r.wf⟩
 rcases r.row with y|⟨off,r',op,rfl,y⟩
 ·exact .inl y
 ·refine .inr ⟨off,r',op,rfl,fun j hj k=>?_⟩
  have:=y j hj k
  show oB _ (Zr (h'.get b) _ 68)=_
  rw[e];exact this
theorem Adf.Ho {h:Aa}{v:EV}{b:Nat}{l:List F6}(r:Adf h v b l)(k:EV->R):Ev.Ho v k=k (I l.length):=by
 rcases r.row with ⟨rfl,rfl⟩|⟨off,r',op,rfl,_⟩ <;> rfl
theorem Adf.at {h:Aa}{v:EV}{b:Nat}{l:List F6}(r:Adf h v b l){j:Nat}(hj:j<l.length)(k:EV->R):Ix 68 v (I j) (fun p=>B8 68 p h k)=k (.agg l[j].cells):=by
 rcases r.row with ⟨rfl,rfl⟩|⟨off,r',op,rfl,y⟩
 ·exact absurd hj (Nat.not_lt_zero _)
 ·unfold I;rw[Wu hj];exact y j hj k
def Mi.evs(S:Mi)(l:List F6):Mi:={ S with dr:={ S.dr with ev:=l } }
theorem Az2(A:Au disp)(H91:disp 91=some Ast)(hK:10000<K){d:Nat}(hd:2<=d){h:Aa}{m:Nat}{S:Mi}{F:Nat->Prop}(M:H4 h m S F)(hb:HB h){e:F6}(w:e.Wf)(hl:S.dr.ev.length+S.dr.Of.length<=199){v15:Nat}(g15:h.get v15=some (.cells e.cells 105)){kk:Aa->R}{Q:EV->Aa->Prop}
 (hk:∀ h' l,H4 h' m (S.evs l) F->l.length<=S.dr.ev.length+1->Kf F h h'->HB h'->Ok (kk h') Q) :
 Ok (Gn h fun base s=>Cs 1 1 s h (fun h=>Gi K (.ptr m 0) h) fun v68 h s=>A9 2 0 base (.ptr v15 0) s fun s=>B8 68 (.ptr v15 0) h fun v69=>Cs 3 7 s h (fun h=>Af TT disp K d false 42 [v68,v69] h) fun _ h _=>kk h) Q:=by
 obtain⟨lt,D,p,bl,ql,np,q,c,G,a⟩:=M.s
 have el:=F6.Cb w
 have l15:=hb _ _ g15
 simp only[A10]
 rw[Ra (v:=.ptr D 0) (by kernel_rfl) (by kernel_rfl) (Aix (a.Kb.ext fun i o g=>by rw[Dg];exact g))]
 rw[Aq l15 (by kernel_rfl),Kg g15 rfl (Av el)]
 have dl:Ek h.lift D S.dr G:=a.drv.frame (Nat.le_refl _) fun i _=>Dg ..
 refine Ok.Amo (S:=G) (by kernel_rfl) (by kernel_rfl) (fun _=>by kernel_rfl) (Ap2 (K:=K) A H91 hK hd dl (Hu hb) w hl) (fun _ _ p=>by obtain⟨_,_,_,c,_⟩:=p;exact c) ?_
 rintro _ h1 h2 s' ⟨l,hl',s2,c2,hb2⟩ sm ch _
 have s3:Ek h2 D { S.dr with ev:=l } (Bc G h h2):=(s2.frame (h':=h2) (by rw[sm.next];exact Nat.le_refl _) fun i _=>sm.get i).mono (fun i hi=>by
  rcases hi with hi|hi
  ·exact .inl hi
  ·exact .inr ⟨hi.1,by rw[sm.next];exact hi.2⟩) fun i hi=>by
  rcases hi with hi|hi
  ·exact Nat.lt_of_lt_of_le (a.drv.lt i hi) ch.next
  ·exact hi.2
 obtain⟨M2,k2⟩:=M.drv hb a s3 ch
 exact hk h2 l M2 hl' k2 (ch.hb hb)
theorem Aq7 {c r:Ac}{ih1:EV->EV->EV->EV->EV->Aa->R}{v4 v9 v72 v73 s:EV}{q v18:Nat}{L:List Me}{x:Me}(far:∀ y ∈ L,y.off=x.off->¬ y.A2=x.A2/\¬ y.Dm=x.Dm/\¬ y.A2=x.Dm/\¬ y.Dm=x.A2)(hL:L.length<=100){h0:Aa}{Q:EV->Aa->Prop}
 (hk:∀ h',Ext h0 h'->HB h'->Ok (E8 c r K ih1 v4 v9 s (.ptr v18 0) v72 v73 h') Q) :
 ∀ (f j:Nat) (h:Aa),L.length-j<f->j<=L.length->Ext h0 h->HB h->h.get v18=some (.cells x.cells 83)->B0 h s q 83 6 L.length (L.map Me.cells).flatten->Ok (Bk c r K ih1 f v4 v9 s (.ptr v18 0) v72 v73 s (I L.length) (I j) h) Q:=by
 intro f
 induction f with
 | zero=>intro j h hf;omega
 | succ f ih=>
  intro j h hf hj x0 hb g18 row
  rw[Bk]
  simp only[I,Ad]
  by_cases hlt:j<L.length
  ·have e3:decide ((j:Int)<(L.length:Int))=true:=by simp;omega
   simp only[e3,Ab,Kz]
   have hx:L[j]? = some L[j]:=List.getElem?_eq_getElem hlt
   have fy:=far L[j] (List.getElem_mem hlt)
   generalize L[j]=y at hx fy
   rw[row.ix hlt,Kg (row.block (by omega)) rfl (Awq (n:=6) (L.map Me.cells) j y.cells (fun y hy=>by obtain⟨z,_,rfl⟩:=List.mem_map.1 hy;rfl) (by rw[List.getElem?_map,hx];rfl))]
   try simp only[Ab]
   refine Ok.A69 y (Ae _ _) rfl ?_
   have x2:Ext h ((h.new (.cells [EV.int .i64 0,.int .i64 0,.int .i64 0,.int .i64 0,.int .i64 0,.int .i64 0] 83)).put h.next (.cells y.cells 83)):=(A4.new h _:Ext _ _).A8 (.inr (Nat.le_refl _)) (Nat.lt_succ_self _) _
   have g2:((h.new (.cells [EV.int .i64 0,.int .i64 0,.int .i64 0,.int .i64 0,.int .i64 0,.int .i64 0] 83)).put h.next (.cells y.cells 83)).get h.next=some (.cells y.cells 83):=Aj _ _ _
   generalize (h.new (.cells [EV.int .i64 0,.int .i64 0,.int .i64 0,.int .i64 0,.int .i64 0,.int .i64 0] 83)).put h.next (.cells y.cells 83)=h2 at x2 g2 ⊢
   have hb2:=x2.hb hb
   have g182:=x2.at hb g18
   have row2:=row.frame (h':=h2) fun y=>x2.get _ (hb _ _ (row.block y)) id
   rw[Ce g2 rfl (v:=I y.off) rfl,Ce g182 rfl (v:=I x.off) rfl]
   have nxt:Ok (He c r K ih1 (Bk c r K ih1 f) v4 v9 s (.ptr v18 0) v72 v73 s (.int .i64 (L.length:Int)) (.int .i64 (j:Int)) h2) Q:=by
    simp only[He,Ad]
    rw[C6 (by omega) (by omega),show ((j:Nat):Int)+1=((j+1:Nat):Int) by omega]
    exact ih (j+1) h2 (by omega) (by omega) (x0.trans x2) hb2 g182 row2
   simp only[I,Ad]
   by_cases ho:y.off=x.off
   ·obtain⟨f1,f2,f3,f4⟩:=fy ho
    simp only[ho,decide_true,Ab]
    rw[Ce g2 rfl (v:=I y.A2) rfl,Ce g182 rfl (v:=I x.A2) rfl]
    simp only[I,Ad,f1,decide_false,Ab,Ey]
    rw[Ce g2 rfl (v:=I y.Dm) rfl,Ce g182 rfl (v:=I x.Dm) rfl]
    simp only[I,Ad,f2,decide_false,Ab,Ew,El]
    rw[Ce g2 rfl (v:=I y.A2) rfl,Ce g182 rfl (v:=I x.Dm) rfl]
    simp only[I,Ad,f3,decide_false,Ab,E6,Fb]
    rw[Ce g2 rfl (v:=I y.Dm) rfl,Ce g182 rfl (v:=I x.A2) rfl]
    simp only[I,Ad,f4,decide_false,Ab,E7,E9]
    exact nxt
   ·have tup:As (.tuple []) false=false/\As (.tuple []) true=false:=⟨rfl,rfl⟩
    simp only[ho,decide_false,Ab,Ad,tup.1,tup.2,Ey,Ew,El,E6,Fb,E7,E9]
    exact nxt
  ·have:j=L.length:=by omega
   subst this
   simp only[show decide ((L.length:Int)<(L.length:Int))=false by simp,Ab]
   exact hk h x0 hb
section
variable (A:Au disp)(hK:10000<K){d:Nat}(hd:22<=d){m n0:Nat}{h0:Aa}
include A hK hd
theorem Aov {g:Gm}(hr:rtB g=true){N v4:Nat}(hN:N<=100)(l4:v4<n0):
 ∀ (n i:Nat) (h:Aa) (S:Mi) (L:List Me) (s:EV) (q:Nat),N-i<n->i<=N->H4 h m S (F1 n0 q)->HB h->Hm S L->S.g=g->h.get v4=some (.cells (gL g) 23)->B0 h s q 83 6 L.length (L.map Me.cells).flatten->L.length<=i->(0<L.length->n0<=q)->n0<=h0.next->Kf (fun i=>i<n0) h0 h ->
  Ok (Ba (Af TT disp K d false) (Af TT disp K d true) K n (.ptr v4 0) (.ptr m 0) s (I N) (I i) h) fun v h'=>v=.bool true/\Kf (fun i=>i<n0) h0 h':=by
 intro n
 induction n with
 | zero=>intro i h S L s q hn;omega
 | succ n ih=>
  intro i h S L s q hn hi M hb V hg g4 row hL hq0 hn0 kf
  rw[Ba]
  simp only[I,Ad,Ab]
  by_cases hlt:i<N
  ·have:decide ((i:Int)<(N:Int))=true:=by simp;omega
   have w1:Cv .i64 ((i:Int)+1)=(i:Int)+1:=C6 (by omega) (by omega)
   simp only[this,Ab,K4,Ad,w1]
   rw[w8 (by omega)]
   refine(A26 (K:=K) (by omega) i hb).Al ?_
   rintro _ h2 ⟨rfl,x2,hb2⟩
   rw[show List.replicate 32 i=List.replicate 32 (i % 256) by rw[Nat.mod_eq_of_lt (by omega)]]
   have hfm:=Axh i
   simp only[I]at hfm
   rw[Cu hfm]
   try simp only[Ad,w1]
   have M2:=(M.ext hb x2).less fun j (hj:F1 n0 q j)=>Or.inl hj
   refine(Av4 A hK (by omega) M2 hb2 (Aqo i) 1 ((i:Int)+1)).Al ?_
   rintro _ h3 ⟨rfl,M3,k3,hb3⟩
   obtain⟨pg,pl⟩:=Ap5 V (i:=i) (by omega)
   generalize S.place (Np i) 1 ((i:Int)+1)=P at M3 pg pl ⊢
   simp only[Ab]
   refine Ok.A69 P.2.1 (Ae _ _) rfl ?_
   have x7:Ext h3 ((h3.new (.cells [EV.int .i64 0,.int .i64 0,.int .i64 0,.int .i64 0,.int .i64 0,.int .i64 0] 83)).put h3.next (.cells P.2.1.cells 83)):=(A4.new h3 _:Ext _ _).A8 (.inr (Nat.le_refl _)) (Nat.lt_succ_self _) _
   have g7:((h3.new (.cells [EV.int .i64 0,.int .i64 0,.int .i64 0,.int .i64 0,.int .i64 0,.int .i64 0] 83)).put h3.next (.cells P.2.1.cells 83)).get h3.next=some (.cells P.2.1.cells 83):=Aj _ _ _
   generalize (h3.new (.cells [EV.int .i64 0,.int .i64 0,.int .i64 0,.int .i64 0,.int .i64 0,.int .i64 0] 83)).put h3.next (.cells P.2.1.cells 83)=h7 at x7 g7 ⊢
   have hb7:=x7.hb hb3
   have lq:=M.lt q (.inr rfl)
   have lq2:q<h2.next:=Nat.lt_of_lt_of_le lq x2.next
   have lq3:q<h3.next:=Nat.lt_of_lt_of_le lq2 k3.next
   have row7:B0 h7 s q 83 6 L.length (L.map Me.cells).flatten:=row.frame fun _=>by rw[x7.get q lq3 id,k3.get q lq2 (fun y=>y (.inr rfl)),x2.get q lq id]
   have M7:=M3.ext hb3 x7
   have k27:Kf (F1 n0 q) h h7:=((Ext.kf x2).trans k3).trans (Ext.kf x7)
   have kf7:Kf (fun i=>i<n0) h0 h7:=kf.trans (k27.less fun j hj=>.inl hj)
   have g47:=k27.at hb g4 (.inl l4)
   rcases pl with ⟨e0,V',pk⟩|⟨e0,V'⟩
   ·simp only[e0,Ad,not_true_eq_false,decide_false,Ab,K9]
    rw[Kg g7 rfl (Av (n:=6) rfl),Kg g47 rfl (Av (n:=6) rfl)]
    try simp only[Ab]
    have sm:=V'.wf.sm
    have rz:=Abu sm pk.dz.1
    have rm:=Abu sm pk.dm.1
    have gP:P.1.g=g:=pg.trans hg
    have hright:=pk.right (by omega) (by rw[gP];exact hr)
    rw[gP]at hright
    rw[show EV.agg (gL g)=gV g from rfl]
    refine(Al0 (K:=K) (g:=g) hb7 pk.st rz rm).Al ?_
    rintro _ h8 ⟨rfl,x8⟩
    rw[hright]
    have hb8:=x8.hb hb7
    simp only[Ab]
    rw[Ce (x8.at hb7 g7) rfl (v:=I P.2.1.A2) rfl]
    have M8:=M7.ext hb7 x8
    refine(Ri (K:=K) M8.s hb8 rz).Al ?_
    rintro _ h9 ⟨rfl,x9⟩
    have nb1:P.1.Uj P.2.1.A2=false:=by unfold Mi.Uj;rw[decide_eq_false pk.dz.2,Bool.and_false]
    have nb2:P.1.Uj P.2.1.Dm=false:=by unfold Mi.Uj;rw[decide_eq_false pk.dm.2,Bool.and_false]
    have hb9:=x9.hb hb8
    rw[nb1]
    simp only[Ha,Ab,Ad]
    rw[Ce (x9.at hb8 (x8.at hb7 g7)) rfl (v:=I P.2.1.Dm) rfl]
    have M9:=M8.ext hb8 x9
    refine(Ri (K:=K) M9.s hb9 rm).Al ?_
    rintro _ h10 ⟨rfl,x10⟩
    have hb10:=x10.hb hb9
    rw[nb2]
    have x710:Ext h7 h10:=(x8.trans x9).trans x10
    have g710:=x710.at hb7 g7
    simp only[G9,Ab,Ad]
    rw[Ce g710 rfl (v:=I P.2.1.seq) rfl,pk.seq]
    simp only[I,Ad,w1,not_true_eq_false,decide_false,Ab,G3,K3]
    have row10:B0 h10 s q 83 6 L.length (L.map Me.cells).flatten:=row7.frame fun _=>x710.get q (Nat.lt_of_lt_of_le lq3 x7.next) id
    rw[row10.Ho]
    refine Aq7 (K:=K) (q:=q) (x:=P.2.1) pk.far (by omega) (h0:=h10) ?_ K 0 h10 (by omega) (by omega) (A4.refl _) hb10 g710 row10
    intro h11 x11 hb11
    have x711:Ext h7 h11:=x710.trans x11
    have row11:B0 h11 s q 83 6 L.length (L.map Me.cells).flatten:=row7.frame fun _=>x711.get q (Nat.lt_of_lt_of_le lq3 x7.next) id
    simp only[E8]
    rw[F4 (x711.at hb7 g7) rfl,Av (n:=6) rfl]
    try simp only[Ab]
    refine Q5 row11 hb11 rfl rfl (show P.2.1.cells.length=6 from rfl) (by omega) (by omega) ?_
    intro h12 row12 n12 c12
    simp only[Ck,Ad,w1]
    rw[show ((i:Nat):Int)+1=((i+1:Nat):Int) by omega]
    have M11:=M7.ext hb7 x711
    have t1:=x711.next
    have t2:=x7.next
    have t3:=k3.next
    have t4:=x2.next
    have t5:=kf.next
    have M12:H4 h12 m P.1 (F1 n0 (h11.next+1)):=(M11.A57 c12 fun j hj _=>.inl (.inl (.inr hj.2))).less fun j hj=>by
     rcases hj with hj|hj
     ·exact .inl (.inl (.inl (.inl hj)))
     ·exact .inr ⟨by omega,by omega⟩
    have ll:(L++[P.2.1]).length=L.length+1:=by rw[List.length_append];rfl
    have kA:Kf (fun i=>i<n0) h0 h11:=kf7.trans (Ext.kf x711)
    refine ih (i+1) h12 P.1 (L++[P.2.1]) _ _ (by omega) (by omega) M12 (c12.hb hb11) V' gP ?_ ?_ (by omega) (fun _=>by omega) hn0 (kA.trans (c12.mono fun j hj y=>?_))
    ·refine c12.at hb11 (x711.at hb7 g47) fun y=>?_
     have:=hq0 y.1
     have:=y.2
     omega
    ·rw[ll,List.map_append,List.flatten_append,show ([P.2.1].map Me.cells).flatten=P.2.1.cells from List.append_nil _];exact row12
    ·have:=hq0 hj.1
     have:=hj.2
     have y:j<n0:=y
     omega
   ·have nx:Ok (Ck (Af TT disp K d false) (Af TT disp K d true) K (Ba (Af TT disp K d false) (Af TT disp K d true) K n) (.ptr v4 0) (.ptr m 0) s (.int .i64 (N:Int)) (.int .i64 (i:Int)) h7) fun v h'=>v=.bool true/\Kf (fun i=>i<n0) h0 h':=by
     simp only[Ck,Ad,w1]
     rw[show ((i:Nat):Int)+1=((i+1:Nat):Int) by omega]
     exact ih (i+1) h7 P.1 L s q (by omega) (by omega) (M7.less fun j hj=>.inl hj) hb7 V' (pg.trans hg) g47 row7 (by omega) hq0 hn0 kf7
    rcases e0 with e0|e0
    ·simp only[Ad,e0,show decide (¬ (34:Int)=0)=true from rfl,show decide (¬ (34:Int)=40)=true from rfl,show decide (¬ (34:Int)=34)=false from rfl,Ab,Et]
     exact nx
    ·simp only[Ad,e0,show decide (¬ (40:Int)=0)=true from rfl,show decide (¬ (40:Int)=40)=false from rfl,Ab,Et]
     exact nx
  ·have:decide ((i:Int)<(N:Int))=false:=by simp;omega
   simp only[this,Ab,Fc]
   exact .ret ⟨rfl,kf⟩
theorem Aoa(H91:disp 91=some Ast){g:Gm}{v3 v4 ev:EV}{eb:Nat}{le:List F6}(he:Adf h0 ev eb le)(hle:le.length<=30)(le0:eb<n0)(l0:n0<=h0.next){Q:EV->Aa->Prop}
 (hq:∀ h S,H4 h m S (fun i=>i<n0)->HB h->Hm S []->S.g=g->Kf (fun i=>i<n0) h0 h->Ok (Eo (Af TT disp K d false) (Af TT disp K d true) K v3 v4 (.ptr m 0) h) Q) :
 ∀ (n j:Nat) (h:Aa) (S:Mi),le.length-j<n->j<=le.length->H4 h m S (fun i=>i<n0)->HB h->Hm S []->S.g=g->S.dr.ev.length<=j->S.dr.Of = []->Kf (fun i=>i<n0) h0 h ->
  Ok (Bt (Af TT disp K d false) (Af TT disp K d true) K n v3 v4 (.ptr m 0) ev (I le.length) (I j) h) Q:=by
 intro n
 induction n with
 | zero=>intro j h S hn;omega
 | succ n ih=>
  intro j h S hn hj M hb V hg hev hhap kf
  have hk:=he.frame (kf.get eb (by omega) fun y=>y le0)
  rw[Bt]
  simp only[I,Ad,Ab]
  by_cases hlt:j<le.length
  ·have:decide ((j:Int)<(le.length:Int))=true:=by simp;omega
   simp only[this,Ab,Kv]
   have ha:=hk.at hlt
   have hw:=hk.wf _ (List.getElem_mem hlt)
   generalize le[j]=e at ha hw
   simp only[I]at ha
   rw[ha]
   have el:=F6.Cb hw
   try simp only[Ab]
   refine Ok.st e.cells (Ae _ _) rfl (by show Je e.cells=68;rw[Ch,el]) (Cd (by show _=e.cells.length;rw[el];simp)) ?_
   have x2:Ext h ((h.new (.cells (List.replicate 4 (EV.int .i64 0)++List.replicate 64 (.int .u8 0)) 105)).put h.next (.cells e.cells 105)):=(A4.new h _:Ext _ _).A8 (.inr (Nat.le_refl _)) (Nat.lt_succ_self _) _
   have g2:((h.new (.cells (List.replicate 4 (EV.int .i64 0)++List.replicate 64 (.int .u8 0)) 105)).put h.next (.cells e.cells 105)).get h.next=some (.cells e.cells 105):=Aj _ _ _
   generalize (h.new (.cells (List.replicate 4 (EV.int .i64 0)++List.replicate 64 (.int .u8 0)) 105)).put h.next (.cells e.cells 105)=h2 at x2 g2 ⊢
   have hb2:=x2.hb hb
   have M2:=(M.ext hb x2).less fun i (hi:i<n0)=>Or.inl hi
   refine Az2 (K:=K) A H91 hK (d:=d) (by omega) M2 hb2 hw (by rw[hhap];simp only[List.length_nil];omega) g2 ?_
   intro h3 l M3 hl k3 hb3
   simp only[Ks,Ad]
   rw[C6 (by omega) (by omega),show ((j:Nat):Int)+1=((j+1:Nat):Int) by omega]
   exact ih (j+1) h3 (S.evs l) (by omega) (by omega) M3 hb3 (V.congr rfl rfl rfl rfl rfl rfl) hg (by show l.length<=j+1;omega) hhap ((kf.trans (Ext.kf x2)).trans k3)
  ·have:decide ((j:Int)<(le.length:Int))=false:=by simp;omega
   simp only[this,Ab]
   exact hq h S M hb V hg kf
theorem Aqa {g:Gm}{v3 v4 ev zv:EV}{zb:Nat}{zl:List Int}(hz:Ain h0 zv zb zl)(lz:zb<n0)(l0:n0<=h0.next)(hr:∀ z ∈ zl,Rng z)(hl:zl.length<=1000){Q:EV->Aa->Prop}
 (hq:∀ h S,H4 h m S (fun i=>i<n0)->HB h->Ane S->S.g=g->S.dr.Of = []->Kf (fun i=>i<n0) h0 h->Ok (Er (Af TT disp K d false) (Af TT disp K d true) K ev v3 v4 (.ptr m 0) h) Q) :
 ∀ (n i:Nat) (h:Aa) (S:Mi),zl.length-i<n->i<=zl.length->H4 h m S (fun i=>i<n0)->HB h->Ane S->S.g=g->S.dr.Of = []->Kf (fun i=>i<n0) h0 h ->
  Ok (Bu (Af TT disp K d false) (Af TT disp K d true) K n ev v3 v4 (.ptr m 0) zv (I zl.length) (I i) h) Q:=by
 intro n
 induction n with
 | zero=>intro i h S hn;omega
 | succ n ih=>
  intro i h S hn hi M hb f hg hh kf
  have hk:=hz.frame (kf.get zb (by omega) fun y=>y lz)
  rw[Bu]
  simp only[I,Ad,Ab]
  by_cases hlt:i<zl.length
  ·have:decide ((i:Int)<(zl.length:Int))=true:=by simp;omega
   simp only[this,Ab,K2]
   have:=hk.at hlt
   simp only[I]at this
   rw[this]
   obtain⟨p,ep,Afr⟩:=Az7 (K:=K) M hb A hK
   simp only[ep,Ab]
   refine(Afr (d:=d) (by omega) (z:=zl[i]) (hr _ (List.getElem_mem hlt)) (fun _ y=>f.calm.bad _ y)).Al ?_
   rintro _ h2 ⟨rfl,M2,k2,hb2⟩
   simp only[Kq,Ad]
   rw[C6 (by omega) (by omega),show ((i:Nat):Int)+1=((i+1:Nat):Int) by omega]
   exact ih (i+1) h2 _ (by omega) (by omega) M2 hb2 (f.Afr _) hg hh (kf.trans k2)
  ·have:decide ((i:Int)<(zl.length:Int))=false:=by simp;omega
   simp only[this,Ab]
   exact hq h S M hb f hg hh kf
end
theorem Ays(A:Au disp)(H91:disp 91=some Ast)(hK:10000<K){d:Nat}(hd:22<=d)(h23:∀ h,Af TT disp K d false 23 [] h=some (.bool true,h))(g:Gm)(n:Int){h:Aa}(hb:HB h){zv ev:EV}{zb eb:Nat}{zl:List Int}{le:List F6}
 (hz:Ain h zv zb zl) (he:Adf h ev eb le) (lz:zb<h.next) (lk:eb<h.next) (hr:∀ z ∈ zl,Rng z) :
 Ok (Ir (Af TT disp K d false) (Af TT disp K d true) K (gV g) zv ev (I n) h) fun v h'=>v=.bool true/\∀ i,i<h.next->h'.get i=h.get i:=by
 simp only[Ir,gV,Ab,h23,Ko]
 have x1:Ext h (h.new (.cells (gL g) 23)):=A4.new _ _
 have g4:(h.new (.cells (gL g) 23)).get h.next=some (.cells (gL g) 23):=Ae _ _
 have n1:(h.new (.cells (gL g) 23)).next=h.next+1:=rfl
 generalize h.new (.cells (gL g) 23)=h1 at x1 g4 n1 ⊢
 have hb1:=x1.hb hb
 rw[F4 g4 rfl,Av (n:=6) rfl]
 try simp only[Ab]
 rw[show EV.agg (gL g)=gV g from rfl]
 refine(Ao3 (K:=K) (by omega) g hb1).Al ?_
 rintro v h2 ⟨x2,hb2,l,hl,hv⟩
 have st:∀ (k:Aa->R) (Q:EV->Aa->Prop),(∀ h',Ext h2 h'->HB h'->Ok (k h') Q)->Ok (Jf 20 (.ptr h2.next 0) (.agg l) (h2.new (.cells z20 42)) k) Q:=fun k Q hk=>by
  refine Ok.st l (Ae _ _) rfl (by show Je l=20;rw[Ch,hl]) (Cd (by show z20.length=l.length;rw[hl];rfl)) ?_
  have x3:Ext h2 ((h2.new (.cells z20 42)).put h2.next (.cells l 42)):=(A4.new h2 _:Ext _ _).A8 (.inr (Nat.le_refl _)) (Nat.lt_succ_self _) _
  exact hk _ x3 (x3.hb hb2)
 by_cases hy:rtB g=true/\g.D*g.Z<=64
 ·rw[if_pos hy]at hv
  obtain⟨m,rfl,M2⟩:=hv
  simp only[Ab]
  refine st _ _ ?_
  intro h3 x3 hb3
  have x03:Ext h h3:=(x1.trans x2).trans x3
  have x13:Ext h1 h3:=x2.trans x3
  have l0:h1.next<=h3.next:=Nat.le_trans x2.next x3.next
  have M3:=(M2.ext hb2 x3).less fun i (hi:i<h1.next)=>Or.inl hi
  have hz3:=hz.frame (x03.get _ lz id)
  have he3:=he.frame (x03.get _ lk id)
  have g43:=x13.at hb1 g4
  have f5:=Ax9 hy.1
  simp only[Ab,Ad,hz3.Ho,I,E0,Ez,Es,Em]
  by_cases c1:64<(zl.length:Int)
  ·simp only[c1,decide_true,Ab,Ad]
   exact .ret ⟨rfl,fun i hi=>x03.get i hi id⟩
  ·simp only[c1,decide_false,Ab,Ad,he3.Ho,I]
   by_cases c0:30<(le.length:Int)
   ·simp only[c0,decide_true,Ab,Ad]
    exact .ret ⟨rfl,fun i hi=>x03.get i hi id⟩
   ·simp only[c0,decide_false,Ab,Ad]
    by_cases c2:n<0
    ·simp only[c2,decide_true,Ab,Ad]
     exact .ret ⟨rfl,fun i hi=>x03.get i hi id⟩
    ·simp only[c2,decide_false,Ab,Ad]
     by_cases c3:60<n
     ·simp only[c3,decide_true,Ab]
      exact .ret ⟨rfl,fun i hi=>x03.get i hi id⟩
     ·simp only[c3,decide_false,Ab,Ky,hz3.Ho,I]
      obtain⟨N,rfl⟩:=Int.eq_ofNat_of_zero_le (show 0<=n by omega)
      refine Aqa (K:=K) A hK hd (g:=g) (h0:=h3) (n0:=h1.next) hz3 (by omega) l0 hr (by omega) ?_ K 0 h3 _ (by omega) (by omega) M3 hb3 f5 rfl rfl (A4.refl _)
      intro h4 S M4 hb4 f4 hg4 hh4 kf4
      simp only[Er,he3.Ho,I]
      refine Aoa (K:=K) A hK hd H91 (g:=g) he3 (by omega) (by omega) l0 ?_ K 0 h4 S (by omega) (by omega) M4 hb4 ⟨f4.calm.wf,f4.calm.nd,.inl f4.cl.1,fun y hy=>by cases hy⟩ hg4 (by rw[f4.calm.ev];exact Nat.le_refl _) hh4 kf4
      intro h5 T M5 hb5 V5 hg5 kf5
      simp only[Eo]
      refine(Aov (K:=K) A hK hd (g:=g) hy.1 (N:=N) (by omega) (show h.next<h1.next by omega) K 0 h5 T [] .Ag zb (by omega) (by omega) (M5.less fun j hj=>?_) hb5 V5 hg5 (kf5.at hb3 g43 (by show h.next<h1.next;omega)) (B0.nil _ _ _ _) (Nat.le_refl _) (fun y=>absurd y (Nat.lt_irrefl _)) l0 kf5).mono ?_
      ·rcases hj with hj|hj
       ·exact hj
       ·have:j=zb:=hj
        show j<h1.next
        omega
      ·rintro v h' ⟨rfl,kf⟩
       exact⟨rfl,fun i hi=>(kf.get i (by omega) fun y=>y (by omega)).trans (x03.get i hi id)⟩
 ·rw[if_neg hy]at hv
  subst hv
  simp only[Ab]
  refine st _ _ ?_
  intro h3 x3 hb3
  simp only[Ab,Ad,E0,Ez,Es,Em]
  exact .ret ⟨rfl,fun i hi=>((x1.trans x2).trans x3).get i hi id⟩
end Go.Ev
