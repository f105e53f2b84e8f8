import Derived.Test.YtpkcfamminlmaaaGreatPa
import Derived.Test.YtpkcfamminlmaaaGreatQa
import Derived.Test.YtpkcfamminlmaaaGreatDd
set_option linter.unusedVariables false
set_option linter.unusedSimpArgs false
set_option linter.unusedSectionVars false
namespace Go.Ev
open Go.Proofs
set_option maxRecDepth 100000
def Vl(C:Nat->List Fr)(a b:Nat)(fa fb:Fr):Nat->List Fr:=fun z=>if z=a then C z++[fa] else if z=b then C z++[fb] else C z
def Acf(P:Fd->Bool)(n a:Nat)(f:Fr):Nat:=if a<n/\P ⟨a,f.off,f⟩=true then 1 else 0
theorem Am1(P:Fd->Bool)(a:Nat)(f:Fr):Acf P 0 a f=0:=by unfold Acf;rw[if_neg (fun y=>absurd y.1 (Nat.not_lt_zero _))]
theorem Amm(P:Fd->Bool)(n a:Nat)(f:Fr):Acf P (n+1) a f=Acf P n a f+(if a=n then (if P ⟨a,f.off,f⟩=true then 1 else 0) else 0):=by
 unfold Acf
 by_cases h:a=n
 ·subst h
  rw[if_pos rfl,if_neg (show ¬ (a<a/\_) from fun y=>Nat.lt_irrefl _ y.1),Nat.zero_add]
  by_cases hp:P ⟨a,f.off,f⟩=true
  ·rw[if_pos ⟨Nat.lt_succ_self _,hp⟩,if_pos hp]
  ·rw[if_neg (fun y=>hp y.2),if_neg hp]
 ·rw[if_neg h,Nat.add_zero]
  by_cases hp:a<n/\P ⟨a,f.off,f⟩=true
  ·rw[if_pos hp,if_pos ⟨by omega,hp.2⟩]
  ·rw[if_neg hp,if_neg fun y=>hp ⟨by omega,y.2⟩]
theorem Asx(P:Fd->Bool)(n:Nat)(f:Fr):(Cg n [f]).countP P=if P ⟨n,f.off,f⟩=true then 1 else 0:=by
 show List.countP P [⟨n,f.off,f⟩]=_
 rw[List.countP_singleton]
theorem Aqt(z:Int)(A B:List Fr):Cg z (A++B)=Cg z A++Cg z B:=List.map_append
theorem A41 {C:Nat->List Fr}{a b:Nat}(hab:a ≠ b)(fa fb:Fr)(P:Fd->Bool):∀ n,(Cj (Vl C a b fa fb) n).countP P=(Cj C n).countP P+Acf P n a fa+Acf P n b fb:=by
 intro n
 induction n with
 | zero=>rw[Am1,Am1];rfl
 | succ n ih=>
  show (Cj (Vl C a b fa fb) n++Cg n (Vl C a b fa fb n)).countP P=(Cj C n++Cg n (C n)).countP P+_+_
  rw[List.countP_append,List.countP_append,ih,Amm,Amm]
  unfold Vl
  by_cases h1:n=a
  ·subst h1
   rw[if_pos rfl,if_pos rfl,if_neg (Ne.symm hab),Aqt,List.countP_append,Asx]
   omega
  ·rw[if_neg h1,if_neg (Ne.symm h1)]
   by_cases h2:n=b
   ·subst h2
    rw[if_pos rfl,if_pos rfl,Aqt,List.countP_append,Asx]
    omega
   ·rw[if_neg h2,if_neg (Ne.symm h2)]
    omega
theorem As4(L:List Fd):L.length=L.countP fun _=>true:=by rw[List.countP_true]
theorem Awz(ep sq:Int)(L:List Fd):X3 ep sq L=L.countP fun x=>x.is ep sq:=(List.countP_eq_length_filter ..).symm
theorem Age {C:Nat->List Fr}{x:Fd}:∀ {n:Nat},x ∈ Cj C n->∃ z:Nat,z<n/\x.A7=z/\x.off=x.fr.off/\x.fr ∈ C z
 | 0,h=>by cases h
 | n+1,h=>by
  rcases List.mem_append.1 h with h|h
  ·obtain⟨z,a,b⟩:=Age h
   exact⟨z,by omega,b⟩
  ·obtain⟨f,hf,rfl⟩:=List.mem_map.1 h
   exact⟨n,Nat.lt_succ_self _,rfl,rfl,hf⟩
theorem A56 {C:Nat->List Fr}{ep:Int}(h1:0<=ep):∀ n,(∀ z,z<n->∀ f ∈ C z,f.Ax=ep)->P7 C n=if (Cj C n).length=0 then 0 else ep:=by
 have key:∀ (G:List Fr) (l:Int),(∀ f ∈ G,f.Ax=ep)->(l=0\/l=ep)->Qn G l=if G.length=0 then l else ep:=by
  intro G
  induction G with
  | nil=>intro l _ _;rfl
  | cons g G ih=>
   intro l hG hl
   show Qn G (max l g.Ax)=_
   have e:=hG g (List.mem_cons_self ..)
   have m:max l g.Ax=ep:=by rw[e];rcases hl with rfl|rfl <;> omega
   rw[m,ih ep (fun f hf=>hG f (List.mem_cons_of_mem _ hf)) (.inr rfl),if_neg (show ¬ (g::G).length=0 by simp)]
   split <;> rfl
 intro n
 induction n with
 | zero=>intro _;rfl
 | succ n ih=>
  intro h
  have i:=ih fun z hz=>h z (by omega)
  show Qn (C n) (P7 C n)=_
  have hl:P7 C n=0\/P7 C n=ep:=by rw[i];split;exact .inl rfl;exact .inr rfl
  rw[key _ _ (h n (Nat.lt_succ_self _)) hl]
  have el:(Cj C (n+1)).length=(Cj C n).length+(C n).length:=by
   show (Cj C n++Cg n (C n)).length=_
   rw[List.length_append];unfold Cg;rw[List.length_map]
  rw[el,i]
  by_cases h2:(C n).length=0
  ·rw[if_pos h2,h2,Nat.add_zero]
  ·rw[if_neg h2,if_neg (by omega)]
end Go.Ev

namespace Go.Ev
open Go.Proofs
set_option maxRecDepth 100000
theorem Kept.Af2 {S T:Mi}{C:Nat->List Fr}(k:Kept S C)(h:S.Af2=some T):Kept T C:=by
 unfold Mi.Af2 at h
 split at h
 ·cases h;exact k
 ·split at h
  ·cases h
  ·cases h
   exact⟨⟨k.up.ev,k.up.up⟩,k.n,k.st,k.l,k.rcs,k.len⟩
theorem Azy {e:En}(h1:e.count=1):Nc (((Ns e).drop 6).take 1)=1:=by
 have e1:Ns e=Qx 6 e.first.toNat++(Qx 1 e.count.toNat++(Qx 1 e.block.toNat++(Qx 2 e.many.toNat++(Qx 2 e.F6.toNat++e.bytes)))):=by
  unfold Ns;simp only[List.append_assoc]
 have d6:∀ (A B:List Nat),A.length=6->(A++B).drop 6=B:=fun A B h=>by rw[<-h,List.drop_left]
 have t1:∀ (A B:List Nat),A.length=1->(A++B).take 1=A:=fun A B h=>by
  have:=List.take_left (l₁:=A) (l₂:=B)
  rw[h]at this;exact this
 rw[e1,d6 _ _ (Gu _ _),t1 _ _ (Gu _ _),Aoo,h1];rfl
def Anq(e:En)(z mt off ep sq:Int):Fr:=⟨e.kind,z,off,ep,sq,Ns { e with F6:=mt }⟩
theorem A2n {e:En}{ep sq:Int}(w:e.Wf)(he:EOk e ep sq){z mt off:Int}(hz:0<=z)(hz':z<=65535)(hm:0<=mt)(hm':mt<=65535)(ho:0<=off)(ho':off<=65535)(h1:e.count=1):
 Anu e z mt off ep sq=Dl (Ii (Anq e z mt off ep sq))/\(Anq e z mt off ep sq).Wf/\frB (Anq e z mt off ep sq)=true/\Nc (((Anq e z mt off ep sq).body.drop 6).take 1)<3:=by
 have w':({ e with F6:=mt }:En).Wf:=⟨w.len,w.u8⟩
 have h2:=he.at hz hz' hm hm' ho ho'
 obtain⟨a,b,_,_⟩:=Ai8 w' h2
 have fw:=Amj w' z off ep sq
 rw[a]at fw
 refine⟨by unfold Anu;rw[a];rfl,fw,b,?_⟩
 show Nc (((Ns { e with F6:=mt }).drop 6).take 1)<3
 rw[Azy (by exact h1)];decide
theorem Ayl.app {G:List Fr}{z:Int}{f:Fr}(r:Ayl G z)(h:f.Wf/\frB f=true/\f.A7=z/\f.off=(G.length:Nat)/\Nc ((f.body.drop 6).take 1)<3):Ayl (G++[f]) z:=by
 intro i x hx
 rcases Nat.lt_or_ge i G.length with y|y
 ·rw[List.getElem?_append_left y]at hx;exact r i x hx
 ·rw[List.getElem?_append_right y]at hx
  have hi:i-G.length=0:=by
   rcases Nat.eq_zero_or_pos (i-G.length) with w|w
   ·exact w
   ·rw[List.getElem?_eq_none (by simp;omega)]at hx;cases hx
  rw[hi]at hx
  cases hx
  have:i=G.length:=by omega
  subst this;exact h
theorem Kept.Aiy {T:Mi}{C:Nat->List Fr}(k:Kept T C)(c:Calm T)(r:Roomy T){e:En}{ep sq:Int}(w:e.Wf)(he:EOk e ep sq)(h1:e.count=1):
 Kept (T.Aiy e ep sq) (Vl C T.a.toNat T.b.toNat (Anq e T.a T.b T.u ep sq) (Anq e T.b T.a T.u ep sq)):=by
 obtain⟨n1,n2,n3,n4,n5,n6,n7⟩:=c.ne r
 obtain⟨a0,a1,_,a2⟩:=Z1 c n1
 obtain⟨b0,b1,_,b2⟩:=Z1 c n2
 have hu:=r.2
 have s1:=c.sm.s1
 obtain⟨ra,wa,fa,da⟩:=A2n w he a0 (by omega) b0 (by omega) n4 (by omega) h1 (mt:=T.b) (z:=T.a) (off:=T.u)
 obtain⟨rb,wb,fb,db⟩:=A2n w he b0 (by omega) a0 (by omega) n4 (by omega) h1 (mt:=T.a) (z:=T.b) (off:=T.u)
 have la:=(n7 _ (.inl rfl)).1
 have lb:=(n7 _ (.inr rfl)).1
 have ka:=k.l _ a1
 have kb:=k.l _ b1
 have ca:((C T.a.toNat).length:Int)=T.u:=by rw[ka,List.length_map]at la;exact la
 have cb:((C T.b.toNat).length:Int)=T.u:=by rw[kb,List.length_map]at lb;exact lb
 refine⟨⟨k.up.ev,k.up.up⟩,k.n,fun z hz=>?_,fun z hz=>?_,fun z hz=>?_,fun z hz=>?_⟩
 ·show ¬ (K1 (K1 T.dr.dv.zs T.a.toNat _) T.b.toNat _ z).st=4
  unfold K1
  split
  ·show ¬ (if _ then 2 else 1)=4
   split <;> decide
  ·split
   ·show ¬ (if _ then 2 else 1)=4
    split <;> decide
   ·exact k.st z hz
 ·show (K1 (K1 T.dr.dv.zs T.a.toNat _) T.b.toNat _ z).l=(Vl C _ _ _ _ z).map _
  unfold K1 Vl
  by_cases h2:z=T.b.toNat
  ·subst h2
   rw[if_pos rfl,if_neg (Ne.symm n5),if_pos rfl,List.map_append]
   show (T.dr.dv.zs T.b.toNat).l++[_]=_
   rw[kb,rb];rfl
  ·rw[if_neg h2]
   by_cases h3:z=T.a.toNat
   ·subst h3
    rw[if_pos rfl,if_pos rfl,List.map_append]
    show (T.dr.dv.zs T.a.toNat).l++[_]=_
    rw[ka,ra];rfl
   ·rw[if_neg h3,if_neg h3,if_neg h2];exact k.l z hz
 ·unfold Vl
  split
  ·rename_i e;subst e
   exact(k.rcs _ hz).app ⟨wa,fa,by show T.a=_;omega,by rw[ca];rfl,da⟩
  ·split
   ·rename_i e;subst e
    exact(k.rcs _ hz).app ⟨wb,fb,by show T.b=_;omega,by rw[cb];rfl,db⟩
   ·exact k.rcs z hz
 ·unfold Vl
  split
  ·rename_i e;subst e
   rw[List.length_append,List.length_singleton];omega
  ·split
   ·rename_i e;subst e
    rw[List.length_append,List.length_singleton];omega
   ·exact k.len z hz
end Go.Ev

namespace Go.Ev
open Go.Proofs
set_option maxRecDepth 100000
def Afc(i:Nat):En:=⟨3,(i:Int)+1,1,((i &&& 7:Nat):Int),0,0,List.replicate 32 0⟩
theorem A1d(i:Nat):(Afc i).Wf:=⟨by simp[Afc],fun b hb=>by rw[List.eq_of_mem_replicate hb];omega⟩
structure Ahn(S:Mi)(C:Nat->List Fr)(ep:Int)(i:Nat):Prop where
 calm:Calm S
 kept:Kept S C
 ep:∀ z:Nat,z<S.dr.dv.n->∀ f ∈ C z,f.Ax=ep/\f.seq<=i
 len:(Cj C S.dr.dv.n).length=2*i
theorem Ahn.at {S:Mi}{C:Nat->List Fr}{ep:Int}{i:Nat}(p:Ahn S C ep i)(c:Int):Ahn (S.at c) C ep i:=
 ⟨⟨{ toWp:=⟨p.calm.wf.sm,p.calm.wf.ps⟩,op:=p.calm.wf.op },p.calm.rt,p.calm.ev,p.calm.up,p.calm.n,p.calm.size,p.calm.op,p.calm.bad,p.calm.nd,p.calm.fr,p.calm.opn,p.calm.few⟩,p.kept.at c,p.ep,p.len⟩
theorem Ahn.last {S:Mi}{C:Nat->List Fr}{ep:Int}{i:Nat}(p:Ahn S C ep (i+1))(h:0<=ep):P7 C S.dr.dv.n=ep:=by
 rw[A56 h _ fun z hz f hf=>(p.ep z hz f hf).1,if_neg (by rw[p.len];omega)]
theorem A48 {S:Mi}{C:Nat->List Fr}{ep:Int}{i:Nat}(p:Ahn S C ep i):
 (∃ C',(S.place (Afc i) ep ((i:Int)+1)).2.2=0/\Ahn (S.place (Afc i) ep ((i:Int)+1)).1 C' ep (i+1)/\(S.place (Afc i) ep ((i:Int)+1)).1.dr.dv.n=S.dr.dv.n/\X3 ep ((i:Int)+1) (Cj C' S.dr.dv.n)=2 /\
  ∀ x ∈ Cj C' S.dr.dv.n,x.is ep ((i:Int)+1)=true->x.off=(S.place (Afc i) ep ((i:Int)+1)).2.1.off/\(x.A7=(S.place (Afc i) ep ((i:Int)+1)).2.1.A7\/x.A7=(S.place (Afc i) ep ((i:Int)+1)).2.1.F6)) \/
 ¬ (S.place (Afc i) ep ((i:Int)+1)).2.2=0:=by
 by_cases he:EOk (Afc i) ep ((i:Int)+1)
 ·rw[Azi p.calm he]
  cases ho:S.Af2 with
  | none=>exact .inr (by show ¬ (40:Int)=0;decide)
  | some T=>
   obtain⟨cT,rT,eg,_⟩:=Aya p.calm ho
   have kT:=p.kept.Af2 ho
   have kA:=kT.Aiy cT rT (A1d i) he rfl
   obtain⟨n1,n2,n3,n4,n5,n6,n7⟩:=cT.ne rT
   obtain⟨a0,a1,_,a2⟩:=Z1 cT n1
   obtain⟨b0,b1,_,b2⟩:=Z1 cT n2
   have hn:T.dr.dv.n=S.dr.dv.n:=by rw[kT.n,p.kept.n,eg]
   have two:=fun P=>A41 (C:=C) n5 (Anq (Afc i) T.a T.b T.u ep ((i:Int)+1)) (Anq (Afc i) T.b T.a T.u ep ((i:Int)+1)) P S.dr.dv.n
   have zero:(Cj C S.dr.dv.n).countP (fun x=>x.is ep ((i:Int)+1))=0:=by
    rw[List.countP_eq_zero]
    intro x hx h
    obtain⟨z,hz,_,_,hm⟩:=Age hx
    have:=(p.ep z hz _ hm).2
    unfold Fd.is at h
    simp only[Bool.and_eq_true,decide_eq_true_eq]at h
    omega
   have isA:∀ z o w mt off,(Fd.mk z o (Anq (Afc i) w mt off ep ((i:Int)+1))).is ep ((i:Int)+1)=true:=fun z o w mt off=>by
    unfold Fd.is Anq;simp
   refine .inl ⟨Vl C T.a.toNat T.b.toNat (Anq (Afc i) T.a T.b T.u ep ((i:Int)+1)) (Anq (Afc i) T.b T.a T.u ep ((i:Int)+1)),rfl,⟨cT.Aiy rT _ _ _,kA,fun z hz f hf=>?_,?_⟩,hn,?_,fun x hx his=>?_⟩
   ·have hz:z<T.dr.dv.n:=hz
    have old:∀ f ∈ C z,f.Ax=ep/\f.seq<=((i+1:Nat):Int):=fun f hf=>by
     have:=p.ep z (by omega) f hf
     exact⟨this.1,by omega⟩
    unfold Vl at hf
    split at hf
    ·rcases List.mem_append.1 hf with hf|hf
     ·exact old f hf
     ·rw[List.mem_singleton.1 hf];exact⟨rfl,by show (i:Int)+1<=_;omega⟩
    ·split at hf
     ·rcases List.mem_append.1 hf with hf|hf
      ·exact old f hf
      ·rw[List.mem_singleton.1 hf];exact⟨rfl,by show (i:Int)+1<=_;omega⟩
     ·exact old f hf
   ·show (Cj _ T.dr.dv.n).length=_
    rw[hn,As4,two,<-As4,p.len]
    unfold Acf
    rw[if_pos ⟨by omega,rfl⟩,if_pos ⟨by omega,rfl⟩];omega
   ·rw[Awz,two,zero]
    unfold Acf
    rw[if_pos ⟨by omega,isA _ _ _ _ _⟩,if_pos ⟨by omega,isA _ _ _ _ _⟩]
   ·obtain⟨z,hz,ez,eo,hm⟩:=Age hx
    have his:x.fr.Ax=ep/\x.fr.seq=(i:Int)+1:=by
     unfold Fd.is at his
     simpa only[Bool.and_eq_true,decide_eq_true_eq] using his
    have old:¬ x.fr ∈ C z:=fun y=>by have:=(p.ep z hz _ y).2;omega
    show x.off=T.u/\(x.A7=T.a\/x.A7=T.b)
    unfold Vl at hm
    split at hm
    ·rename_i e
     rcases List.mem_append.1 hm with hm|hm
     ·exact absurd hm old
     ·rw[eo,List.mem_singleton.1 hm];exact⟨rfl,.inl (by omega)⟩
    ·split at hm
     ·rename_i e
      rcases List.mem_append.1 hm with hm|hm
      ·exact absurd hm old
      ·rw[eo,List.mem_singleton.1 hm];exact⟨rfl,.inr (by omega)⟩
     ·exact absurd hm old
 ·exact .inr (A3m he).1
theorem Atl:∀ n,Cj (fun _=>[]) n = []
 | 0=>rfl
 | n+1=>by show Cj (fun _=>[]) n++Cg n [] = [];rw[Atl n];rfl
theorem Amw.pl {S:Mi}(f:Amw S)(ep:Int):Ahn S (fun _=>[]) ep 0:=
 ⟨f.calm,⟨⟨f.calm.ev,f.calm.up⟩,f.calm.n,fun z _=>by rw[f.zs];decide,fun z _=>by rw[f.zs];rfl,fun z _ i f h=>by simp at h,fun z _=>Nat.zero_le _⟩,fun z _ f h=>by simp at h,by rw[Atl];rfl⟩
end Go.Ev

namespace Go.Ev
open Go.Proofs
set_option maxRecDepth 100000
variable {K:Nat}{disp:Nat->Option FT}
theorem ps9:(Ds TT 9 0).2.1 = [111]:=by kernel_rfl
theorem Brv {i:Nat}{k:EV->R}:K3 (bin TT .and 3) (.int .i64 (i:Int)) (.int .i64 7) k=k (I ((i &&& 7:Nat):Int)):=by
 show k (.int .i64 (Dk .i64 (.ofNat (Nat.land i 7))))=_
 have:Int.ofNat (Nat.land i 7)=((i &&& 7:Nat):Int):=rfl
 have l:i &&& 7<=7:=Nat.and_le_right
 rw[this,C8 (by omega) (by omega)];first|done|rfl
theorem A6j(i:Nat):Wm (Dj [(0,1),(1,1),(2,1),(3,1),(4,1),(5,1),(6,32)]) [(0,I 3),(1,I ((i:Int)+1)),(2,I 1),(3,I ((i &&& 7:Nat):Int))] (List.replicate 6 (.int .i64 0)++List.replicate 32 (.int .u8 0))=some (Afc i).cells:=rfl
theorem A4b {h:Aa}{b:Nat}{x:Bool}(hg:h.get b=some (.cells [.bool x] 4)):Ct TT [.c (.ptr b 0) 4] h=some (.bool x,h):=by
 have hr:Hh h b 0 1=some [.bool x]:=by unfold Hh;rw[hg];rfl
 unfold Ct
 simp only[Ao8,show TT.size 4=some 1 by kernel_rfl,show TT.agg 4=some false by kernel_rfl,hr]
theorem Azb {h:Aa}{b8 n0:Nat}{x:Bool}{ds:List Nat}{h0:Aa}(hb:HB h)(g8:h.get b8=some (.cells [.bool x] 4))(nd:ds.Nodup)(hds:∀ d ∈ ds,n0<=d/\h.get d=some (.deferred true))(l8:n0<=b8)(kf:Kf (fun i=>i<n0) h0 h):
 Ok (Dw 1 (.ptr b8 0) (.bool true) h fun h=>Ej ds h fun h=>Ct TT [.c (.ptr b8 0) 4] h) fun v h'=>v=.bool true/\Kf (fun i=>i<n0) h0 h':=by
 have l:=hb _ _ g8
 have n8:b8 ∉ ds:=fun y=>by have:=(hds b8 y).2;rw[g8]at this;cases this
 refine Ok.st1 g8 rfl rfl (by show 0<1;decide) ?_
 have hb1:=hb.put l (.cells ([EV.bool x].set 0 (.bool true)) 4)
 refine Ok.unwind nd (fun d hd=>?_) hb1 fun h' ch _=>?_
 ·rw[As _ (fun e=>n8 (by rw[e];exact hd))];exact(hds d hd).2
 ·have g:h'.get b8=some (.cells [.bool true] 4):=A9.at ch hb1 (Aj _ _ _) n8
  rw[A4b g]
  have kp:Kf (fun i=>i<n0) h (h.put b8 (.cells ([EV.bool x].set 0 (.bool true)) 4)):=(A9.refl (S:=fun i=>¬ i<n0) h).A5 (.inl (by omega)) l _
  exact .ret ⟨rfl,(kf.trans kp).trans (ch.mono fun i hi y=>by have:=(hds i hi).1;omega)⟩
section
variable (H:Aq disp)
include H
theorem A5z {e:Nat}(he:6<=e){h:Aa}{l0 d0 b8 b16 b20 n:Nat}{tm:Ac}{me:Me}{x:Fd}(hw:x.fr.Wf)(hn:n<=30000)(t8:tmp tm 8=.ptr b8 0)(t16:tmp tm 16=.ptr b16 0)(t20:tmp tm 20=.ptr b20 0)(hg:h.get l0=some (Bv TT 9 136 0 tm .ready none d0))(g16:h.get b16=some (.cells me.cells 83))(g20:h.get b20=some (.cells [I n] 3))(hb:HB h)(ho:x.off=me.off)(hz:x.A7=me.A7\/x.A7=me.F6):
 Ok (Ad TT disp K (e+1) true l0 [.agg x.cells] h) fun v h'=>v=.bool true/\h'.get l0=some (Bv TT 9 136 0 tm .ready none d0)/\h'.get b20=some (.cells [I ((n+1:Nat):Int)] 3)/\A9 (fun j=>j=l0\/j=b20) h h'/\HB h':=by
 have hg':=hg
 unfold Bv at hg'
 rw[ps9]at hg'
 rw[R3 H he tm h _ hg',t8,t16,t20]
 have l0l:=hb _ _ hg
 have fl:=Fd.len hw
 have n016:l0 ≠ b16:=Bt hg g16 (by simp[Bv])
 have n020:l0 ≠ b20:=Bt hg g20 (by simp[Bv])
 simp only[Gt,Ab]
 refine Ok.stW (Ag _ _) (by simp) fl ?_
 have x3:Ext h ((h.new (.cells (List.replicate 7 (EV.int .i64 0)++List.replicate 44 (.int .u8 0)) 122)).put h.next (.cells x.cells 122)):=(A9.new h _:Ext _ _).A5 (.inr (Nat.le_refl _)) (Nat.lt_succ_self _) _
 have gx:((h.new (.cells (List.replicate 7 (EV.int .i64 0)++List.replicate 44 (.int .u8 0)) 122)).put h.next (.cells x.cells 122)).get h.next=some (.cells x.cells 122):=Aj _ _ _
 generalize (h.new (.cells (List.replicate 7 (EV.int .i64 0)++List.replicate 44 (.int .u8 0)) 122)).put h.next (.cells x.cells 122)=h3 at x3 gx ⊢
 have hb3:=x3.hb hb
 have q0:=x3.at hb hg
 have l3:=hb3 _ _ q0
 rw[Alf q0]
 have c4:A9 (fun j=>j=l0\/j=b20) h (h3.put l0 (Bv TT 9 136 0 tm .busy none d0)):=(Ext.to (S:=fun j=>j=l0\/j=b20) x3).A5 (.inl (.inl rfl)) l3 _
 have r0:(h3.put l0 (Bv TT 9 136 0 tm .busy none d0)).get l0=some (Bv TT 9 136 0 tm .busy none d0):=Aj _ _ _
 have r16:(h3.put l0 (Bv TT 9 136 0 tm .busy none d0)).get b16=some (.cells me.cells 83):=by rw[As _ n016];exact x3.at hb g16
 have r20:(h3.put l0 (Bv TT 9 136 0 tm .busy none d0)).get b20=some (.cells [I n] 3):=by rw[As _ n020];exact x3.at hb g20
 have rx:(h3.put l0 (Bv TT 9 136 0 tm .busy none d0)).get h.next=some (.cells x.cells 122):=by rw[As _ (by omega)];exact gx
 have hb4:HB (h3.put l0 (Bv TT 9 136 0 tm .busy none d0)):=hb3.put l3 _
 generalize h3.put l0 (Bv TT 9 136 0 tm .busy none d0)=h4 at c4 r0 r16 r20 rx hb4 ⊢
 have l20:=hb4 _ _ r20
 have l04:=hb4 _ _ r0
 have fin:Ok (D3 (Ad TT disp K e false) (Ad TT disp K e true) K l0 (.ptr b20 0) h4) fun v h'=>v=.bool true/\h'.get l0=some (Bv TT 9 136 0 tm .ready none d0)/\h'.get b20=some (.cells [I ((n+1:Nat):Int)] 3)/\A9 (fun j=>j=l0\/j=b20) h h'/\HB h':=by
  simp only[D3]
  rw[C3 r20 rfl (v:=I n) rfl]
  simp only[I,Ai]
  rw[C8 (by omega) (by omega),show ((n:Nat):Int)+1=((n+1:Nat):Int) by omega]
  refine Ok.st1 r20 rfl rfl (by show 0<1;decide) ?_
  rw[Akc (by rw[As _ (Ne.symm n020)];exact r0)]
  exact .ret ⟨rfl,Aj _ _ _,by rw[As _ n020];exact Aj _ _ _,(c4.A5 (.inl (.inr rfl)) l20 _).A5 (.inl (.inl rfl)) (by rw[Aa.X1];exact l04) _,(hb4.put l20 _).put (by rw[Aa.X1];exact l04) _⟩
 simp only[E7,Ab]
 rw[C3 rx rfl (v:=I x.off) rfl,C3 r16 rfl (v:=I me.off) rfl]
 simp only[I,Ai,ho,not_true_eq_false,decide_false,Ab]
 rw[C3 rx rfl (v:=I x.A7) rfl,C3 r16 rfl (v:=I me.A7) rfl]
 simp only[I,Ai]
 by_cases h1:x.A7=me.A7
 ·simp only[h1,not_true_eq_false,decide_false,Ab,Ai,C1,Cx,Cy]
  exact fin
 ·have h2:x.A7=me.F6:=hz.resolve_left h1
  simp only[h1,not_false_eq_true,decide_true,Ab,Ai,C1]
  rw[C3 rx rfl (v:=I x.A7) rfl,C3 r16 rfl (v:=I me.F6) rfl]
  simp only[I,Ai,h2,not_true_eq_false,decide_false,Ab,Cx,Cy]
  exact fin
theorem Bik(hK:10000<K){d:Nat}(hd:10<=d){h:Aa}{b8 b16 b20 bA bE bS q i:Nat}{ds:List Nat}{tm:Ac}{ep:Int}{me:Me}{L:List Fd}{s y l:EV}(hw:∀ x ∈ L,x.fr.Wf)(hn:L.length<=9000)(hb:HB h)(t8:tmp tm 8=.ptr b8 0)(t16:tmp tm 16=.ptr b16 0)(t20:tmp tm 20=.ptr b20 0)
 (g16:h.get b16=some (.cells me.cells 83)) (g20:h.get b20=some (.cells [I 0] 3)) (gA:h.get bA=some (.cells [s,y,l] 112)) (gE:h.get bE=some (.cells [I ep] 3)) (gS:h.get bS=some (.cells [I ((i:Int)+1)] 3)) (nE:bE ≠ b20) (nS:bS ≠ b20) (row:Bu h s q 122 51 L.length (L.map Fd.cells).flatten) (nq:0<L.length->q ≠ b20)
 (hL:X3 ep ((i:Int)+1) L=2) (hx:∀ x ∈ L,x.is ep ((i:Int)+1)=true->x.off=me.off/\(x.A7=me.A7\/x.A7=me.F6))
 {k:Aa->List Nat->R} {ex:Nat->Aa->List Nat->R} {ret:Aa->List Nat->R} {Q:EV->Aa->Prop}
 (hk:∀ h',HB h'->h'.get b20=some (.cells [I 2] 3)->h'.get h.next=some (.deferred true)->A9 (fun j=>j=b20) h h'->Ok (k h' (h.next::ds)) Q) :
 Ok (Aab (Ad TT disp K d false) TT 9 136 0 (.func 95 [] [.ptr bA 0,.ptr bE 0,.ptr bS 0]) tm h ds k ex ret) Q:=by
 obtain⟨e,rfl⟩:∃ k,d=k+2:=⟨d-2,by omega⟩
 refine Ok.range ?_
 rw[Ai1 H (Nat.zero_le _)]
 simp only[Af5,Ab]
 have x3:Ext h (Dq TT 9 136 0 tm h):=T3
 have k0:(Dq TT 9 136 0 tm h).get h.next=some (.deferred true):=T9
 have k1:(Dq TT 9 136 0 tm h).get (h.next+1)=some (Bv TT 9 136 0 tm .ready none h.next):=Q8
 generalize Dq TT 9 136 0 tm h=hR at x3 k0 k1 ⊢
 have hb3:=x3.hb hb
 rw[C3 (x3.at hb gA) rfl (v:=s) rfl]
 have rowR:=row.frame (h':=hR) fun w=>x3.get _ (hb _ _ (row.block w)) id
 rw[rowR.E9]
 have lA:=hb _ _ gE
 have lS:=hb _ _ gS
 have l16:=hb _ _ g16
 have l20:=hb _ _ g20
 have n16:b16 ≠ b20:=Bt g16 g20 (by simp)
 refine(Bbv (K:=K) (ep:=ep) (sq:=(i:Int)+1) (q:=q) hw (by omega) (St:=fun n h'=>HB h'/\h'.get (h.next+1)=some (Bv TT 9 136 0 tm .ready none h.next)/\h'.get b20=some (.cells [I n] 3)/\A9 (fun j=>j=h.next+1\/j=b20) hR h') ?_ ?_ ?_ K 0 hR (by omega) (by omega) ⟨hb3,k1,x3.at hb g20,A9.refl _⟩).mono ?_
 ·rintro n h' ⟨a,b,c,e⟩
  refine⟨a,e.at hb3 (x3.at hb gE) (by omega),e.at hb3 (x3.at hb gS) (by omega),rowR.frame fun w=>e.get _ (hb3 _ _ (rowR.block w)) ?_⟩
  have:=hb _ _ (row.block w)
  have:=nq w
  omega
 ·rintro n h1 h2 ⟨a,b,c,e⟩ x
  exact⟨x.hb a,x.at a b,x.at a c,e.trans (Ext.to x)⟩
 ·rintro n h1 x hn1 ⟨a,b,c,e1⟩ hxm his
  have hc:U3 (Ad TT disp K (e+1) false) (Ad TT disp K (e+1) true) (.Xg (h.next+1)) [.agg x.cells] h1=Ad TT disp K (e+1) true (h.next+1) [.agg x.cells] h1:=rfl
  rw[hc]
  obtain⟨ho,hz⟩:=hx x hxm his
  refine(A5z (K:=K) H (e:=e) (by omega) (hw x hxm) hn1 t8 t16 t20 b (e1.at hb3 (x3.at hb g16) (by omega)) c a ho hz).mono ?_
  rintro _ h2 ⟨rfl,p1,p2,p3,p4⟩
  exact⟨rfl,p4,p1,p2,e1.trans p3⟩
 ·rintro _ h' ⟨a,b,c,e1⟩
  rw[hL]at c
  have l1:=a _ _ b
  refine .inl ⟨b,hk _ (a.put l1 _) (by rw[As _ (by omega)];exact c) (by rw[As _ (by omega)];exact e1.at hb3 k0 (by omega)) ?_⟩
  exact((Ext.to x3).then e1 fun j hj hl=>by
   rcases hj with hj|hj
   ·omega
   ·exact hj).A5 (.inr (by omega)) l1 _
theorem Bmb(hK:10000<K){d:Nat}(hd:10<=d){ih1:Ac->EV->EV->EV->EV->EV->EV->Aa->List Nat->R}{h:Aa}{b8 b16 b18 q i:Nat}{ds:List Nat}{tm:Ac}{ep:Int}{me:Me}{L:List Fd}{s y l v9 v14 v64:EV}(hw:∀ x ∈ L,x.fr.Wf)(hn:L.length<=9000)(hi:i<=100)(hb:HB h)(t8:tmp tm 8=.ptr b8 0)(t16:tmp tm 16=.ptr b16 0)
 (g16:h.get b16=some (.cells me.cells 83)) (g18:h.get b18=some (.cells [s,y,l] 112)) (row:Bu h s q 122 51 L.length (L.map Fd.cells).flatten)
 (hL:X3 ep ((i:Int)+1) L=2) (hx:∀ x ∈ L,x.is ep ((i:Int)+1)=true->x.off=me.off/\(x.A7=me.A7\/x.A7=me.F6)) {Q:EV->Aa->Prop}
 (hk:∀ h' tm' dn,HB h'->Ext h h'->tmp tm' 8=.ptr b8 0->h.next<=dn->h'.get dn=some (.deferred true)->Ok (ih1 tm' (I ep) (.ptr b8 0) v9 v14 v64 (I ((i+1:Nat):Int)) h' (dn::ds)) Q) :
 Ok (Ek (Ad TT disp K d false) (Ad TT disp K d true) K ih1 tm (I ep) (.ptr b8 0) v9 v14 (I i) (.ptr b18 0) v64 (I i) h ds) Q:=by
 simp only[Ek,Ab]
 refine Ok.st1 (Ag _ _) rfl rfl (by show 0<1;decide) ?_
 have x1:Ext h ((h.new (.cells [EV.int .i64 0] 3)).put h.next (.cells ([EV.int .i64 0].set 0 (.int .i64 0)) 3)):=(A9.new h _:Ext _ _).A5 (.inr (Nat.le_refl _)) (Nat.lt_succ_self _) _
 have g20:((h.new (.cells [EV.int .i64 0] 3)).put h.next (.cells ([EV.int .i64 0].set 0 (.int .i64 0)) 3)).get h.next=some (.cells [I 0] 3):=Aj _ _ _
 generalize (h.new (.cells [EV.int .i64 0] 3)).put h.next (.cells ([EV.int .i64 0].set 0 (.int .i64 0)) 3)=h1 at x1 g20 ⊢
 have hb1:=x1.hb hb
 rw[Fy (x1.at hb g18) rfl,A3 (n:=3) rfl]
 simp only[Ab,I,Ai]
 rw[C8 (by omega) (by omega)]
 simp only[Ade,Ab]
 have x2:Ext h1 (((h1.new (.cells [s,y,l] 112)).new (.cells [EV.int .i64 ep] 3)).new (.cells [EV.int .i64 ((i:Int)+1)] 3)):=((A9.new _ _).Fp _).Fp _
 have n2:(((h1.new (.cells [s,y,l] 112)).new (.cells [EV.int .i64 ep] 3)).new (.cells [EV.int .i64 ((i:Int)+1)] 3)).next=h1.next+3:=rfl
 have gS:(((h1.new (.cells [s,y,l] 112)).new (.cells [EV.int .i64 ep] 3)).new (.cells [EV.int .i64 ((i:Int)+1)] 3)).get (h1.next+2)=some (.cells [I ((i:Int)+1)] 3):=Ag _ _
 have gE:(((h1.new (.cells [s,y,l] 112)).new (.cells [EV.int .i64 ep] 3)).new (.cells [EV.int .i64 ((i:Int)+1)] 3)).get (h1.next+1)=some (.cells [I ep] 3):=by
  rw[Bd _ (Nat.lt_succ_self _)];exact Ag _ _
 have gA:(((h1.new (.cells [s,y,l] 112)).new (.cells [EV.int .i64 ep] 3)).new (.cells [EV.int .i64 ((i:Int)+1)] 3)).get h1.next=some (.cells [s,y,l] 112):=by
  rw[Bd _ (show h1.next<h1.next+2 by omega),Bd _ (show h1.next<h1.next+1 by omega)];exact Ag _ _
 rw[show ((h1.new (.cells [s,y,l] 112)).new (.cells [EV.int .i64 ep] 3)).next=h1.next+2 from rfl,show (h1.new (.cells [s,y,l] 112)).next=h1.next+1 from rfl]
 generalize ((h1.new (.cells [s,y,l] 112)).new (.cells [EV.int .i64 ep] 3)).new (.cells [EV.int .i64 ((i:Int)+1)] 3)=h2 at x2 n2 gS gE gA ⊢
 have hb2:=x2.hb hb1
 have x02:Ext h h2:=x1.trans x2
 have l20:=hb1 _ _ g20
 refine Bik (K:=K) H hK hd (b8:=b8) (b16:=b16) (b20:=h.next) (q:=q) (i:=i) (ep:=ep) (me:=me) hw hn hb2 ?_ ?_ ?_ (x02.at hb g16) (x2.at hb1 g20) gA gE gS (by omega) (by omega) (row.frame fun w=>x02.get _ (hb _ _ (row.block w)) id) (fun w=>by have:=hb _ _ (row.block w);omega) hL hx ?_
 ·simp only[Ga,reduceIte,Nat.reduceEqDiff];exact t8
 ·simp only[Ga,reduceIte,Nat.reduceEqDiff];exact t16
 ·simp only[Ga,reduceIte,Nat.reduceEqDiff]
 ·intro h' hb' g20' gd c
  simp only[Er]
  rw[C3 g20' rfl (v:=I 2) rfl]
  simp only[I,Ai,not_true_eq_false,decide_false,Ab,Es]
  rw[C8 (by omega) (by omega),show ((i:Nat):Int)+1=((i+1:Nat):Int) by omega]
  refine hk h' _ h2.next hb' (x02.then c fun j hj hl=>by omega) ?_ x02.next gd
  simp only[Ga,reduceIte,Nat.reduceEqDiff];exact t8
end
end Go.Ev

namespace Go.Ev
open Go.Proofs
set_option maxRecDepth 100000
variable {K:Nat}{disp:Nat->Option FT}
theorem Bse(S:Mi)(c:Int):(S.at c).dr.dv.n=S.dr.dv.n:=rfl
section
variable (A:Aq disp)(hK:10000<K){d:Nat}(hd:22<=d){m b8 n0:Nat}{h0:Aa}{ep:Int}
include A hK hd
theorem Bm0 {ih1:Ac->EV->EV->EV->EV->EV->EV->Aa->List Nat->R}{h:Aa}{b16 b18 q i:Nat}{ds:List Nat}{tm:Ac}{me:Me}{L:List Fd}{s y v9 v14 v64 v98:EV}(hw:∀ x ∈ L,x.fr.Wf)(hn:L.length<=9000)(hi:i<=100)(hb:HB h)(t8:tmp tm 8=.ptr b8 0)(t16:tmp tm 16=.ptr b16 0)(h98:v98=.bool false)
 (g16:h.get b16=some (.cells me.cells 83)) (g18:h.get b18=some (.cells [s,y,I ep] 112)) (row:Bu h s q 122 51 L.length (L.map Fd.cells).flatten)
 (hL:X3 ep ((i:Int)+1) L=2) (hx:∀ x ∈ L,x.is ep ((i:Int)+1)=true->x.off=me.off/\(x.A7=me.A7\/x.A7=me.F6)) {Q:EV->Aa->Prop}
 (hk:∀ h' tm' dn,HB h'->Ext h h'->tmp tm' 8=.ptr b8 0->h.next<=dn->h'.get dn=some (.deferred true)->Ok (ih1 tm' (I ep) (.ptr b8 0) v9 v14 v64 (I ((i+1:Nat):Int)) h' (dn::ds)) Q) :
 Ok (Dp (Ad TT disp K d false) (Ad TT disp K d true) K ih1 tm (I ep) (.ptr b8 0) v9 v14 (I i) (.ptr b18 0) v64 (I i) (.bool false) v98 h ds) Q:=by
 subst h98
 simp only[Dp,Ab]
 rw[C3 g18 rfl (v:=I ep) rfl]
 simp only[I,Ai,not_true_eq_false,decide_false,Ab,Ep]
 refine Bmb (K:=K) A hK (d:=d) (by omega) (b16:=b16) (b18:=b18) (q:=q) (me:=me) (L:=L) hw hn hi hb ?_ ?_ g16 g18 row hL hx hk
 ·simp only[Ga,reduceIte,Nat.reduceEqDiff];exact t8
 ·simp only[Ga,reduceIte,Nat.reduceEqDiff];exact t16
theorem Bjo {ih1:Ac->EV->EV->EV->EV->EV->EV->Aa->List Nat->R}{h7:Aa}{b16 i:Nat}{ds:List Nat}{tm:Ac}{me:Me}{S:Mi}{C:Nat->List Fr}{F:Nat->Prop}{v64:EV}(e1:1<=ep)(hi:i<=100)(p:Ahn S C ep (i+1))(hn:S.dr.dv.n<=64)(M7:Fc h7 m S F)(hb7:HB h7)(t8:tmp tm 8=.ptr b8 0)(t16:tmp tm 16=.ptr b16 0)
 (g16:h7.get b16=some (.cells me.cells 83)) (F16:F b16)
 (hc:X3 ep ((i:Int)+1) (Cj C S.dr.dv.n)=2) (hx:∀ x ∈ Cj C S.dr.dv.n,x.is ep ((i:Int)+1)=true->x.off=me.off/\(x.A7=me.A7\/x.A7=me.F6)) {Q:EV->Aa->Prop}
 (hk:∀ h10 tm' dn F' c,HB h10->(∀ j,F j->F' j)->F' dn->Fc h10 m (S.at c) F'->Kf F h7 h10->h7.next<=dn->tmp tm' 8=.ptr b8 0->h10.get dn=some (.deferred true)->Ok (ih1 tm' (I ep) (.ptr b8 0) (.ptr m 0) (I ((i+1:Nat):Int)) v64 (I ((i+1:Nat):Int)) h10 (dn::ds)) Q) :
 Ok (El (Ad TT disp K d false) (Ad TT disp K d true) K ih1 tm (I ep) (.ptr b8 0) (.ptr m 0) (I i) (I i) v64 (I i) h7 ds) Q:=by
 have w1:Dk .i64 ((i:Int)+1)=((i+1:Nat):Int):=by rw[C8 (by omega) (by omega)];omega
 simp only[El,I,Ai,w1]
 refine(Axl (K:=K) A hK (d:=d) (by omega) p.kept hn M7 hb7).Al ?_
 rintro _ h8 ⟨c,q,s,y,rfl,M8,r8,k8,hb8⟩
 have hlen:=p.len
 have hlast:=p.last (by omega)
 have hmem:∀ x ∈ Cj C S.dr.dv.n,x.fr.Wf:=fun x hx=>by
  obtain⟨z,hz,_,_,hm⟩:=Age hx
  obtain⟨j,hj,e⟩:=List.getElem_of_mem hm
  exact(p.kept.rcs z hz j _ (by rw[List.getElem?_eq_getElem hj,e])).1
 simp only[hlast,Ab]
 refine Ok.stW (Ag _ _) rfl rfl ?_
 have x9:Ext h8 ((h8.new (.cells [EV.Af,.Af,.int .i64 0] 112)).put h8.next (.cells [s,y,I ep] 112)):=(A9.new h8 _:Ext _ _).A5 (.inr (Nat.le_refl _)) (Nat.lt_succ_self _) _
 have g9:((h8.new (.cells [EV.Af,.Af,.int .i64 0] 112)).put h8.next (.cells [s,y,I ep] 112)).get h8.next=some (.cells [s,y,I ep] 112):=Aj _ _ _
 generalize (h8.new (.cells [EV.Af,.Af,.int .i64 0] 112)).put h8.next (.cells [s,y,I ep] 112)=h9 at x9 g9 ⊢
 have hb9:=x9.hb hb8
 have r9:=r8.frame (h':=h9) fun w=>x9.get _ (hb8 _ _ (r8.block w)) id
 have g79:=x9.at hb8 (k8.at hb7 g16 F16)
 simp only[I,Ai,not_true_eq_false,decide_false,Ab]
 rw[C3 g9 rfl (v:=s) rfl,r9.E9,hlen]
 simp only[I,Ai]
 rw[C8 (by omega) (by omega)]
 refine Bm0 (K:=K) A hK hd (b16:=b16) (b18:=h8.next) (q:=q) (me:=me) (L:=Cj C S.dr.dv.n) hmem (by omega) hi hb9 ?_ ?_ ?_ g79 g9 r9 hc hx ?_
 ·simp only[Ga,reduceIte,Nat.reduceEqDiff];exact t8
 ·simp only[Ga,reduceIte,Nat.reduceEqDiff];exact t16
 ·congr 1;simp
 ·intro h10 tm' dn hb10 x10 t8' ldn gdn
  have x810:Ext h8 h10:=x9.trans x10
  have M10:=M8.ext hb8 x810
  have lo:=hb10 _ _ gdn
  have lx:=x9.next
  have l8:=k8.next
  exact hk h10 tm' dn _ c hb10 (fun j hj=>.inl (.inl hj)) (.inr ⟨by omega,lo⟩) M10 (k8.trans x810.kf) (by omega) t8' gdn
theorem Bbq(e1:1<=ep){N:Nat}(hN:N<=60)(l8:n0<=b8):∀ (f i:Nat) (h:Aa) (S:Mi) (C:Nat->List Fr) (F:Nat->Prop) (ds:List Nat) (tm:Ac),N-i<f->i<=N->Fc h m S F->HB h->Ahn S C ep i->S.dr.dv.n<=64->(∀ j,j<n0->F j)->F b8->tmp tm 8=.ptr b8 0->h.get b8=some (.cells [.bool false] 4)->ds.Nodup->(∀ x ∈ ds,n0<=x/\F x/\h.get x=some (.deferred true))->n0<=h.next->Kf (fun i=>i<n0) h0 h ->
 Ok (Dr (Ad TT disp K d false) (Ad TT disp K d true) K f tm (I ep) (.ptr b8 0) (.ptr m 0) (I i) (I N) (I i) h ds) fun v h'=>v=.bool true/\Kf (fun i=>i<n0) h0 h':=by
 intro f
 induction f with
 | zero=>intro i h S C F ds tm hf;omega
 | succ f ih=>
  intro i h S C F ds tm hf hi M hb p hn hF F8 t8 g8 nd hds hnn kf
  rw[Dr]
  simp only[I,Ai,Ab]
  by_cases hlt:i<N
  ·have:decide ((i:Int)<(N:Int))=true:=by simp;omega
   have w1:Dk .i64 ((i:Int)+1)=(i:Int)+1:=C8 (by omega) (by omega)
   simp only[this,Ab,Gw,Ai,w1]
   rw[Brv]
   have hf7:=A6j i
   simp only[I]at hf7 ⊢
   rw[B6 hf7]
   try simp only[Ai,w1]
   refine(A3t A hK (by omega) M hb (A1d i) ep ((i:Int)+1)).Al ?_
   rintro _ h3 ⟨rfl,M3,k3,hb3⟩
   have pl:=A48 p
   generalize S.place (Afc i) ep ((i:Int)+1)=P at M3 pl ⊢
   simp only[Ab]
   refine Ok.Bri P.2.1 (Ag _ _) rfl ?_
   have x7:Ext h3 ((h3.new (.cells [EV.int .i64 0,.int .i64 0,.int .i64 0,.int .i64 0,.int .i64 0,.int .i64 0] 83)).put h3.next (.cells P.2.1.cells 83)):=(A9.new h3 _:Ext _ _).A5 (.inr (Nat.le_refl _)) (Nat.lt_succ_self _) _
   have g7:((h3.new (.cells [EV.int .i64 0,.int .i64 0,.int .i64 0,.int .i64 0,.int .i64 0,.int .i64 0] 83)).put h3.next (.cells P.2.1.cells 83)).get h3.next=some (.cells P.2.1.cells 83):=Aj _ _ _
   generalize (h3.new (.cells [EV.int .i64 0,.int .i64 0,.int .i64 0,.int .i64 0,.int .i64 0,.int .i64 0] 83)).put h3.next (.cells P.2.1.cells 83)=h7 at x7 g7 ⊢
   have hb7:=x7.hb hb3
   have M7:=M3.ext hb3 x7
   have k7:Kf F h h7:=k3.trans x7.kf
   have g87:=k7.at hb g8 F8
   have hd7:∀ x ∈ ds,n0<=x/\h7.get x=some (.deferred true):=fun x hx=>⟨(hds x hx).1,k7.at hb (hds x hx).2.2 (hds x hx).2.1⟩
   have kf7:Kf (fun i=>i<n0) h0 h7:=kf.trans (k7.less hF)
   have l7:=hb7 _ _ g7
   have nx7:=k7.next
   rcases pl with ⟨C',e0,p',en,hc,hx⟩|e0
   ·simp only[e0,Ai,not_true_eq_false,decide_false,Ab]
    rw[<-en]at hc hx hn
    refine Bjo (K:=K) A hK hd (b16:=h3.next) e1 (by omega) p' hn M7 hb7 ?_ ?_ g7 (.inr ⟨Nat.le_refl _,l7⟩) hc hx ?_
    ·simp only[Ga,reduceIte,Nat.reduceEqDiff];exact t8
    ·simp only[Ga,reduceIte,Nat.reduceEqDiff]
    ·intro h10 tm' dn F' c hb10 hFF Fdn M10 kA ldn t8' gdn
     have a1:n0<=h10.next:=by have:=kA.next;omega
     have a2:Kf (fun i=>i<n0) h0 h10:=kf7.trans (kA.less fun j hj=>.inl (hF j hj))
     have a3:(dn::ds).Nodup:=List.nodup_cons.2 ⟨fun y=>by have:=hb7 _ _ (hd7 dn y).2;omega,nd⟩
     have a4:∀ x ∈ dn::ds,n0<=x/\F' x/\h10.get x=some (.deferred true):=fun x hx=>by
      rcases List.mem_cons.1 hx with rfl|hx
      ·exact⟨by omega,Fdn,gdn⟩
      ·have:=hds x hx
       exact⟨this.1,hFF _ (.inl this.2.1),kA.at hb7 (hd7 x hx).2 (.inl this.2.1)⟩
     have a5:=kA.at hb7 g87 (.inl F8)
     have a6:∀ j,j<n0->F' j:=fun j hj=>hFF _ (.inl (hF j hj))
     have a7:F' b8:=hFF _ (.inl F8)
     have a8:N-(i+1)<f:=by omega
     have a9:i+1<=N:=by omega
     have b1:=p'.at c
     have b2:(P.1.at c).dr.dv.n<=64:=by rw[Bse];exact hn
     exact ih (i+1) h10 (P.1.at c) C' F' (dn::ds) tm' a8 a9 M10 hb10 b1 b2 a6 a7 t8' a5 a3 a4 a1 a2
   ·simp only[Ai,e0,not_false_eq_true,decide_true,Ab,Co]
    exact Azb hb7 g87 nd hd7 l8 kf7
  ·have:decide ((i:Int)<(N:Int))=false:=by simp;omega
   simp only[this,Ab,Co]
   exact Azb hb g8 nd (fun x hx=>⟨(hds x hx).1,(hds x hx).2.2⟩) l8 kf
theorem A9u {n1 zb:Nat}{zv:EV}{zl:List Int}(hz:Ave h0 zv zb zl)(lz:zb<n0)(l0:n0<=h0.next)(n01:n0<=n1)(hr:∀ z ∈ zl,Rng z)(hl:zl.length<=1000){v2 v3:EV}{Q:EV->Aa->Prop}
 (hq:∀ h S tm,Fc h m S (fun i=>i<n1)->HB h->Amw S->S.dr.dv.n<=64->tmp tm 8=.ptr b8 0->h.get b8=some (.cells [.bool false] 4)->Kf (fun i=>i<n0) h0 h->Ok (Ed (Ad TT disp K d false) (Ad TT disp K d true) K tm v2 v3 (.ptr b8 0) (.ptr m 0) h []) Q) :
 ∀ (n i:Nat) (h:Aa) (S:Mi) (tm:Ac),zl.length-i<n->i<=zl.length->Fc h m S (fun i=>i<n1)->HB h->Amw S->S.dr.dv.n<=64->b8<n1->tmp tm 8=.ptr b8 0->h.get b8=some (.cells [.bool false] 4)->Kf (fun i=>i<n0) h0 h ->
  Ok (Db (Ad TT disp K d false) (Ad TT disp K d true) K n tm v2 v3 (.ptr b8 0) (.ptr m 0) zv (I zl.length) (I i) h []) Q:=by
 intro n
 induction n with
 | zero=>intro i h S tm hn;omega
 | succ n ih=>
  intro i h S tm hn hi M hb f hS l8 t8 g8 kf
  have hk:=hz.frame (kf.get zb (by omega) fun y=>y lz)
  rw[Db]
  simp only[I,Ai,Ab]
  by_cases hlt:i<zl.length
  ·have:decide ((i:Int)<(zl.length:Int))=true:=by simp;omega
   simp only[this,Ab,Gj]
   have hx:zl[i]? = some zl[i]:=List.getElem?_eq_getElem hlt
   rcases hk.row with ⟨_,rfl⟩|⟨off,r',op,rfl,y⟩
   ·exact absurd hlt (Nat.not_lt_zero _)
   ·rw[Aas hlt,Nat.mul_one]
    have:=fun k=>y i hlt k
    simp only[I]at this
    rw[this]
    obtain⟨p,ep,Aqp⟩:=A9y (K:=K) M hb A hK
    simp only[ep,Ab]
    refine(Aqp (d:=d) (by omega) (z:=zl[i]) (hr _ (List.getElem_mem hlt)) (fun _ y=>f.calm.bad _ y)).Al ?_
    rintro _ h2 ⟨rfl,M2,k2,hb2⟩
    simp only[Gg,Ai]
    rw[C8 (by omega) (by omega),show ((i:Nat):Int)+1=((i+1:Nat):Int) by omega]
    refine ih (i+1) h2 _ _ (by omega) (by omega) M2 hb2 (f.Aqp _) hS l8 ?_ (k2.at hb g8 l8) (kf.trans (k2.less fun j hj=>Nat.lt_of_lt_of_le hj n01))
    simp only[Ga,reduceIte,Nat.reduceEqDiff];exact t8
  ·have:decide ((i:Int)<(zl.length:Int))=false:=by simp;omega
   simp only[this,Ab]
   refine hq h S _ M hb f hS ?_ g8 kf
   simp only[Ga,reduceIte,Nat.reduceEqDiff];exact t8
end
theorem Az7(A:Aq disp)(hK:10000<K){d:Nat}(hd:22<=d)(h44:∀ h,Ad TT disp K d false 44 [] h=some (.bool true,h))(g:Gm)(n ep:Int){h:Aa}(hb:HB h){zv:EV}{zb:Nat}{zl:List Int}(hz:Ave h zv zb zl)(lz:zb<h.next)(hr:∀ z ∈ zl,Rng z):
 Ok (H0 (Ad TT disp K d false) (Ad TT disp K d true) K (gV g) zv (I n) (I ep) h) fun v h'=>v=.bool true/\∀ i,i<h.next->h'.get i=h.get i:=by
 have fin:∀ {v:EV} {h':Aa},(v=.bool true/\Kf (fun i=>i<h.next) h h')->(v=.bool true/\∀ i,i<h.next->h'.get i=h.get i):=fun⟨a,b⟩=>⟨a,fun i hi=>b.get i hi fun y=>y hi⟩
 simp only[H0,gV,Ab,h44,Gh]
 have x1:Ext h ((h.new (.cells (gL g) 23)).new (.cells [.bool false] 4)):=(A9.new _ _).Fp _
 have g4:((h.new (.cells (gL g) 23)).new (.cells [.bool false] 4)).get h.next=some (.cells (gL g) 23):=by
  rw[Bd _ (Nat.lt_succ_self _)];exact Ag _ _
 have g8:((h.new (.cells (gL g) 23)).new (.cells [.bool false] 4)).get (h.next+1)=some (.cells [.bool false] 4):=Ag _ _
 have n1:((h.new (.cells (gL g) 23)).new (.cells [.bool false] 4)).next=h.next+2:=rfl
 rw[show (h.new (.cells (gL g) 23)).next=h.next+1 from rfl]
 generalize (h.new (.cells (gL g) 23)).new (.cells [.bool false] 4)=h1 at x1 g4 g8 n1 ⊢
 have hb1:=x1.hb hb
 rw[Fy g4 rfl,A3 (n:=6) rfl]
 try simp only[Ab]
 rw[show EV.agg (gL g)=gV g from rfl]
 refine(At3 (K:=K) (by omega) g hb1).Al ?_
 rintro v h2 ⟨x2,hb2,l,hl,hv⟩
 have st:∀ (k:Aa->R) (Q:EV->Aa->Prop),(∀ h',Ext h2 h'->HB h'->Ok (k h') Q)->Ok (Dw 20 (.ptr h2.next 0) (.agg l) (h2.new (.cells z20 42)) k) Q:=fun k Q hk=>by
  refine Ok.st l (Ag _ _) rfl (by show Jh l=20;rw[B8,hl]) (Cb (by show z20.length=l.length;rw[hl];rfl)) ?_
  have x3:Ext h2 ((h2.new (.cells z20 42)).put h2.next (.cells l 42)):=(A9.new h2 _:Ext _ _).A5 (.inr (Nat.le_refl _)) (Nat.lt_succ_self _) _
  exact hk _ x3 (x3.hb hb2)
 have yes:∀ h3,Ext h2 h3->HB h3->Ok (Dw 1 (.ptr (h.next+1) 0) (.bool true) h3 fun h_1=>Ct TT [.c (.ptr (h.next+1) 0) 4] h_1) fun v h'=>v=.bool true/\Kf (fun i=>i<h.next) h h':=fun h3 x3 hb3=>
  Azb hb3 (x3.at hb2 (x2.at hb1 g8)) List.nodup_nil (n0:=h.next) (fun d hd=>by cases hd) (by omega) (Ext.kf ((x1.trans x2).trans x3))
 by_cases hy:rtB g=true/\g.D*g.Z<=64
 ·rw[if_pos hy]at hv
  obtain⟨m,rfl,M2⟩:=hv
  simp only[Ab]
  refine st _ _ ?_
  intro h3 x3 hb3
  have x03:Ext h h3:=(x1.trans x2).trans x3
  have l0:h1.next<=h3.next:=Nat.le_trans x2.next x3.next
  have M3:=(M2.ext hb2 x3).less fun i (hi:i<h1.next)=>Or.inl hi
  have hz3:=hz.frame (x03.get _ lz id)
  have f5:=A21 hy.1
  simp only[Ab,Ai,hz3.E9,I,De,Da,Dh,Dg,Dc]
  by_cases c1:64<(zl.length:Int)
  ·simp only[c1,decide_true,Ab,Ai]
   exact(yes h3 x3 hb3).mono fun _ _=>fin
  ·simp only[c1,decide_false,Ab,Ai]
   by_cases c2:n<0
   ·simp only[c2,decide_true,Ab,Ai]
    exact(yes h3 x3 hb3).mono fun _ _=>fin
   ·simp only[c2,decide_false,Ab,Ai]
    by_cases c3:60<n
    ·simp only[c3,decide_true,Ab,Ai]
     exact(yes h3 x3 hb3).mono fun _ _=>fin
    ·simp only[c3,decide_false,Ab,Ai]
     by_cases c4:ep<1
     ·simp only[c4,decide_true,Ab,Ai]
      exact(yes h3 x3 hb3).mono fun _ _=>fin
     ·simp only[c4,decide_false,Ab,Ai]
      by_cases c5:4294967295<ep
      ·simp only[c5,decide_true,Ab,Ai]
       exact(yes h3 x3 hb3).mono fun _ _=>fin
      ·simp only[c5,decide_false,Ab,Ai,Ge,hz3.E9,I]
       obtain⟨N,rfl⟩:=Int.eq_ofNat_of_zero_le (show 0<=n by omega)
       have hn:=f5.calm.n
       have hgn:(Mi.new g).g=g:=rfl
       rw[hgn]at hn
       refine Ok.mono (A9u (K:=K) A hK hd (b8:=h.next+1) (n0:=h.next) (n1:=h1.next) (h0:=h) hz lz (Nat.le_refl _) (by omega) hr (by omega) ?_ K 0 h3 _ _ (by omega) (by omega) M3 hb3 f5 (by omega) (by omega) ?_ (x3.at hb2 (x2.at hb1 g8)) (Ext.kf x03)) fun _ _=>fin
       ·intro h4 S tm M4 hb4 f4 hn4 t8 g84 kf4
        simp only[Ed]
        refine Bbq (K:=K) A hK hd (by omega) (by omega) (by omega) K 0 h4 S (fun _=>[]) _ [] _ (by omega) (by omega) M4 hb4 (f4.pl ep) hn4 (fun j (hj:j<h.next)=>by show j<h1.next;omega) (by show h.next+1<h1.next;omega) ?_ g84 List.nodup_nil (fun x hx=>by cases hx) (by have:=kf4.next;omega) kf4
        simp only[Ga,reduceIte,Nat.reduceEqDiff];exact t8
       ·simp only[Ga,reduceIte,Nat.reduceEqDiff]
 ·rw[if_neg hy]at hv
  subst hv
  simp only[Ab]
  refine st _ _ ?_
  intro h3 x3 hb3
  simp only[Ab,Ai,De,Da,Dh,Dg,Dc]
  exact(yes h3 x3 hb3).mono fun _ _=>fin
end Go.Ev
