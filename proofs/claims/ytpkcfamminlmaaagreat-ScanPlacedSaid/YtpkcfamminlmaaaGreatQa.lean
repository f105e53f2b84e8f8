import Derived.Test.YtpkcfamminlmaaaGreatVb
import Derived.Test.YtpkcfamminlmaaaGreatDd
set_option linter.unusedVariables false
set_option linter.unusedSimpArgs false
set_option linter.unusedSectionVars false
namespace Go.Ev
open Go.Proofs
set_option maxRecDepth 100000
variable {K:Nat}
end Go.Ev

namespace Go.Ev
open Go.Proofs
set_option maxRecDepth 100000
end Go.Ev

namespace Go.Ev
open Go.Proofs
set_option maxRecDepth 100000
variable {K:Nat}{disp:Nat->Option FT}
theorem Ave.E9 {h:Aa}{v:EV}{b:Nat}{l:List Int}(r:Ave h v b l)(k:EV->R):Ev.E9 v k=k (I l.length):=by
 rcases r.row with ⟨rfl,rfl⟩|⟨off,r',op,rfl,_⟩ <;> rfl
theorem Ok.Bri {h:Aa}{i:Nat}{z:List EV}{kk:Aa->R}{Q:EV->Aa->Prop}(x:Me)(hg:h.get i=some (.cells z 83))(hz:z.length=6)(hk:Ok (kk (h.put i (.cells x.cells 83))) Q):Ok (Dw 6 (.ptr i 0) (.agg x.cells) h kk) Q:=by
 have hl:x.cells.length=6:=rfl
 generalize x.cells=xs at hk hl ⊢
 exact Ok.st xs hg rfl (by show Jh xs=6;rw[B8,hl]) (Cb (by show z.length=xs.length;rw[hl,hz])) hk
theorem A6x {S:Mi}{e:En}{ep sq:Int}(he:¬ EOk e ep sq):S.place e ep sq=(S,Me.zero,(F4 e 0 0 ep sq).2):=by
 unfold Mi.place;rw[if_pos (show ¬ (F4 e 0 0 ep sq).2=0 from he)]
theorem A3m {S:Mi}{e:En}{ep sq:Int}(he:¬ EOk e ep sq):¬ (S.place e ep sq).2.2=0/\(S.place e ep sq).1=S:=by
 rw[A6x he];exact⟨he,rfl⟩
section
variable (A:Aq disp)(hK:10000<K){d:Nat}(hd:22<=d){m:Nat}{h0:Aa}{n0:Nat}{zv kv:EV}{zb kb:Nat}{zl kl:List Int}(hz:Ave h0 zv zb zl)(hk:Ave h0 kv kb kl)(lz:zb<n0)(lk:kb<n0)(l0:n0<=h0.next)
include A hK hd
end
end Go.Ev

namespace Go.Ev
open Go.Proofs
set_option maxRecDepth 100000
variable {K:Nat}{disp:Nat->Option FT}
theorem Asf {h:Aa}{z q:Nat}{size:Int}{Z:Zn}(zz:Eo h z q size Z)(hb:HB h):
 Ok (Gv K (.ptr z 0) h) fun v h'=>v=I (Ju Z.st)/\Eo h' z q size (if Ju Z.st=0 then Zn.empty else Z)/\A9 (fun i=>i=z) h h'/\HB h':=by
 obtain⟨s,g,r⟩:=zz.A7
 have lz:=hb _ _ g
 simp only[Gv,Rm zz,Ab,I,Ai]
 by_cases hf:Ju Z.st=0
 ·simp only[hf,not_true_eq_false,decide_false,Ab,if_true,K2]
  refine Ok.st1 g rfl rfl (by show 0<5;decide) ?_
  refine Ok.st1 (Aj _ _ _) rfl rfl (by show 2<5;decide) ?_
  refine Ok.st1 (Aj _ _ _) rfl rfl (by show 3<5;decide) ?_
  refine Ok.st1 (Aj _ _ _) rfl rfl (by show 4<5;decide) ?_
  refine .ret ⟨rfl,⟨⟨.Af,Aj _ _ _,Bu.nil _ _ _ _⟩,fun x hx=>by cases hx⟩,((((A9.refl (S:=fun i=>i=z) h).A5 (.inl rfl) lz _).A5 (.inl rfl) lz _).A5 (.inl rfl) lz _).A5 (.inl rfl) lz _,(((hb.put lz _).put lz _).put lz _).put lz _⟩
 ·simp only[hf,not_false_eq_true,decide_true,Ab,if_false]
  exact .ret ⟨rfl,zz,A9.refl _,hb⟩
noncomputable def Dv.reset(D:Dv)(i:Int):Dv × Int:=
 if D.Gb i ≠ 0 then (D,D.Gb i) else
 (if Ju (D.zs i.toNat).st=0 then D.tick.set i.toNat Zn.empty else D.tick,Ju (D.zs i.toNat).st)
theorem Zn.Wf.empty {size:Nat}(h:0<size):Zn.empty.Wf size:=⟨fun x hx=>(by cases hx),by show 0<=4;omega,Nat.le_refl _,Nat.zero_le _,fun _=>h⟩
theorem Avk {h:Aa}{V:Nat}{D:Dv}{F:Nat->Prop}(d:Gz h V D F)(hb:HB h)(hs:0<D.size)(i:Int):
 Ok (Nt K (.ptr V 0) (I i) h) fun v h'=>v=I (D.reset i).2/\Gz h' V (D.reset i).1 (Bq F h h')/\A9 F h h'/\HB h':=by
 simp only[Nt]
 refine(W8 (K:=K) d hb i).Al ?_
 rintro _ h2 ⟨rfl,d2,c2,hb2,n2⟩
 unfold Dv.reset
 by_cases hbe:D.Gb i=0
 ·rw[if_neg (by rw[hbe];exact fun y=>y rfl),hbe]
  have hbg:D.begin i=D.tick:=by unfold Dv.begin;rw[if_pos hbe]
  rw[hbg]at d2
  obtain⟨j,rfl,hj⟩:=Dv.A0x hbe
  obtain⟨zl,z,q,a,b⟩:=d2.Pb
  obtain⟨hix,hzp⟩:=a.Axy (j:=j) hj
  simp only[I,Ai,not_true_eq_false,decide_false,Ab,U2,a.list,hix,hzp]
  refine(Asf (K:=K) (a.A7 j hj) hb2).Al ?_
  rintro _ h3 ⟨rfl,zz,c3,hb3⟩
  try simp only[Ab]
  rw[show (j:Int).toNat=j from rfl]
  have zz:Eo h3 (z j) (q j) D.size (if Ju (D.zs j).st=0 then Zn.empty else D.zs j):=zz
  by_cases hf:Ju (D.zs j).st=0
  ·simp only[hf,if_true]at zz ⊢
   obtain⟨d3,c23⟩:=Gz.A7 d2.wf a b d2.lt hb2 hj (Zn.Wf.empty hs) zz (c3.mono fun _=>.inl) hb3 (fun y=>absurd rfl y)
   refine .ret ⟨by rw[show Ju (D.tick.zs j).st=Ju (D.zs j).st from rfl,hf],d3.mono (fun i hi=>?_) (Bq.lt d.lt (c2.trans c23).next),c2.trans c23,hb3⟩
   rcases hi with y|y
   ·exact .inl y
   ·exact .inr ⟨Nat.le_trans c2.next y.1,y.2⟩
  ·simp only[hf,if_false]at zz ⊢
   obtain⟨d3,c23⟩:=Gz.A7 d2.wf a b d2.lt hb2 hj (d2.wf.zs j hj) zz (c3.mono fun _=>.inl) hb3 (fun y=>.inr ⟨rfl,y⟩)
   have e:D.tick.set j (D.zs j)=D.tick:=by
    unfold Dv.set
    have:K1 D.tick.zs j (D.zs j)=D.tick.zs:=by funext k;unfold K1;split <;> simp_all [Dv.tick]
    rw[this]
   have d3:Gz h3 V (D.tick.set j (D.zs j)) (Bq F h2 h3):=d3
   rw[e]at d3
   refine .ret ⟨rfl,d3.mono (fun i hi=>?_) (Bq.lt d.lt (c2.trans c23).next),c2.trans c23,hb3⟩
   rcases hi with y|y
   ·exact .inl y
   ·exact .inr ⟨Nat.le_trans c2.next y.1,y.2⟩
 ·rw[if_pos hbe]
  have hbg:D.begin i=D:=by unfold Dv.begin;rw[if_neg hbe]
  rw[hbg]at d2
  simp only[I,Ai,hbe,not_false_eq_true,decide_true,Ab]
  exact .ret ⟨rfl,d2.grow d.lt c2.next,c2,hb2⟩
noncomputable def K4.reset(S:K4)(i:Int):K4 × Int:=({ S.begin i with dv:=((S.begin i).dv.reset i).1 },((S.begin i).dv.reset i).2)
theorem Auj(H:Aq disp)(hK:1000<K){d:Nat}(hd:14<=d){h:Aa}{D:Nat}{S:K4}{G:Nat->Prop}(hdue:Av3 disp K S)(s:Fe h D S G)(hb:HB h)(i:Int)(hs:0<(S.begin i).dv.size):
 Ok (Ad TT disp K d false 202 [.ptr D 0,I i] h) fun v h'=>v=I (S.reset i).2/\Fe h' D (S.reset i).1 (Bq G h h')/\A9 G h h'/\HB h':=by
 obtain⟨e,rfl⟩:∃ k,d=k+1:=⟨d-1,by omega⟩
 rw[Aen H (by omega)]
 simp only[Aa1]
 refine(W6 (K:=K) H (by omega) hdue s hb i).Al ?_
 rintro _ h2 ⟨s2,c2,hb2⟩
 unfold K4.reset
 generalize S.begin i=T at s2 hs ⊢
 obtain⟨V,M,qc,qh,cs,hs',ms,F,a⟩:=s2.Pb
 simp only[Ab,Ck a.D6 rfl]
 refine(Avk (K:=K) a.dev hb2 hs i).Al ?_
 rintro _ h3 ⟨rfl,d3,c3,hb3⟩
 obtain⟨s3,c23⟩:=s2.put a hb2 d3 c3
 have s4:=s3.Baa c2.next c23.next s.lt
 have c4:=c2.grow c23
 simp only[I,Ai]
 by_cases he:(T.dv.reset i).2=0
 ·simp only[he,decide_true,Ab,Q6]
  have hsz:(T.dv.reset i).1.size<=64:=d3.wf.size
  refine(Ayp (K:=K) i K 0 h3 (by show (T.dv.reset i).1.size-0<K;omega) s4 hb3).Al ?_
  rintro _ h5 ⟨s5,c5,hb5⟩
  simp only[Le]
  refine .ret ⟨by rw[<-he],s5.mono (fun j hj=>Bq.le c5.next hj) (Bq.lt s.lt (Nat.le_trans c4.next c5.next)),c4.grow c5,hb5⟩
 ·simp only[he,decide_false,Ab,Le]
  exact .ret ⟨rfl,s4,c4,hb3⟩
end Go.Ev

namespace Go.Ev
open Go.Proofs
set_option maxRecDepth 100000
variable {K:Nat}{disp:Nat->Option FT}
end Go.Ev

namespace Go.Ev
open Go.Proofs
set_option maxRecDepth 100000
variable {K:Nat}{disp:Nat->Option FT}
end Go.Ev

namespace Go.Ev
open Go.Proofs
set_option maxRecDepth 100000
variable {K:Nat}{disp:Nat->Option FT}
theorem Fc.A1c {T:Nat->Prop}{h h':Aa}{m:Nat}{S:Mi}{F:Nat->Prop}(M:Fc h m S F)(c:A9 T h h')(t:∀ i,T i->i<h.next->F i):Fc h' m S (Bq F h h'):=by
 refine⟨(M.s.frame c.next fun i hi=>c.get i hi.1 fun y=>hi.2 (t i y hi.1)).mono (fun i hi=>⟨Nat.lt_of_lt_of_le hi.1 c.next,fun y=>?_⟩) fun i hi=>hi.1,Bq.lt M.lt c.next,M.wf⟩
 rcases y with y|y
 ·exact hi.2 y
 ·have:=hi.1;omega
theorem Aby {n:Nat}:∀ (l:List (List EV)) (j:Nat) (x:List EV),(∀ x ∈ l,x.length=n)->l[j]? = some x->Nf l.flatten (j*n) n=some x:=by
 have len:∀ l:List (List EV),(∀ x ∈ l,x.length=n)->l.flatten.length=l.length*n:=fun l=>by
  induction l with
  | nil=>intro _;simp
  | cons a r ih=>intro h;rw[List.flatten_cons,List.length_append,h a (List.mem_cons_self ..),ih fun x hx=>h x (List.mem_cons_of_mem _ hx),List.length_cons,Nat.succ_mul];omega
 intro l j x hl hx
 have hj:=(List.getElem?_eq_some_iff.1 hx).1
 rw[Hx (by rw[len l hl];have:=Nat.mul_le_mul_right n (show j+1<=l.length from hj);rw[Nat.succ_mul]at this;exact this)]
 congr 1
 induction l generalizing j with
 | nil=>cases hx
 | cons a r ih=>
  have ha:=hl a (List.mem_cons_self ..)
  cases j with
  | zero=>
   rw[List.getElem?_cons_zero]at hx;cases hx
   rw[Nat.zero_mul,List.drop_zero,List.flatten_cons,<-ha,List.take_left]
  | succ j=>
   rw[List.getElem?_cons_succ]at hx
   rw[List.flatten_cons,Nat.succ_mul,show j*n+n=a.length+j*n by omega,<-List.drop_drop,List.drop_left]
   exact ih j (fun x hx=>hl x (List.mem_cons_of_mem _ hx)) hx (List.getElem?_eq_some_iff.1 hx).1
theorem Ok.stW {h:Aa}{i t n:Nat}{z xs:List EV}{kk:Aa->R}{Q:EV->Aa->Prop}(hg:h.get i=some (.cells z t))(hz:z.length=n)(hl:xs.length=n)(hk:Ok (kk (h.put i (.cells xs t))) Q):Ok (Dw n (.ptr i 0) (.agg xs) h kk) Q:=
 Ok.st xs hg rfl (by show Jh xs=n;rw[B8,hl]) (Cb (by show z.length=xs.length;rw[hl,hz])) hk
end Go.Ev

namespace Go.Ev
open Go.Proofs
set_option maxRecDepth 100000
variable {K:Nat}{disp:Nat->Option FT}
section
variable (H:Aq disp)
include H
end
end Go.Ev

namespace Go.Ev
open Go.Proofs
set_option maxRecDepth 100000
variable {K:Nat}{disp:Nat->Option FT}
def Anw(h:Aa)(s:EV)(q:Nat)(e:TypeId)(sz len:Nat)(l:List EV):Prop:=
 Bu h s q e sz len l\/(len=1/\s=.slice q 0 1 1 false/\h.get q=some (.cells l e)/\l.length=sz)
theorem Anw.frame {h h':Aa}{s:EV}{q:Nat}{e:TypeId}{sz len:Nat}{l:List EV}(r:Anw h s q e sz len l)(g:0<len->h'.get q=h.get q):Anw h' s q e sz len l:=by
 rcases r with r|⟨a,b,c,d⟩
 ·exact .inl (r.frame g)
 ·exact .inr ⟨a,b,by rw[g (by omega)];exact c,d⟩
theorem Anw.lt {h:Aa}{s:EV}{q:Nat}{e:TypeId}{sz len:Nat}{l:List EV}(r:Anw h s q e sz len l)(hb:HB h)(hl:0<len):q<h.next:=by
 rcases r with r|⟨a,b,c,d⟩
 ·exact hb _ _ (r.block hl)
 ·exact hb _ _ c
section
variable (H:Aq disp)
include H
end
end Go.Ev

namespace Go.Ev
open Go.Proofs
set_option maxRecDepth 100000
variable {K:Nat}{disp:Nat->Option FT}
theorem Anw.ix {h:Aa}{s:EV}{q:Nat}{e:TypeId}{sz len:Nat}{l:List EV}(r:Anw h s q e sz len l){j:Nat}(hj:j<len)(k:EV->R):Gn sz s (I j) k=k (.ptr q (j*sz)):=by
 rcases r with r|⟨rfl,rfl,c,d⟩
 ·exact r.ix hj .i64 k
 ·unfold I;rw[Aas hj,Nat.zero_add]
theorem Anw.ldN {h:Aa}{s:EV}{q:Nat}{e:TypeId}{sz len n:Nat}{l x:List EV}(r:Anw h s q e sz len l)(hl:0<len){o:Nat}(hx:Nf l o n=some x)(k:EV->R):B4 n (.ptr q o) h k=k (.agg x):=by
 rcases r with r|⟨rfl,rfl,c,d⟩
 ·exact Ij (r.block hl) rfl hx
 ·exact Ij c rfl hx
theorem Anw.E9 {h:Aa}{s:EV}{q:Nat}{e:TypeId}{sz len:Nat}{l:List EV}(r:Anw h s q e sz len l)(k:EV->R):Ev.E9 s k=k (I len):=by
 rcases r with r|⟨rfl,rfl,c,d⟩
 ·exact r.E9 k
 ·rfl
section
variable (H:Aq disp)
include H
end
end Go.Ev

namespace Go.Ev
open Go.Proofs
set_option maxRecDepth 100000
variable {K:Nat}{disp:Nat->Option FT}
structure Bg3(disp:Nat->Option FT)(K:Nat)(h:Aa)(m:Nat)(S:Mi)(F:Nat->Prop)(D V:Nat):Prop where
 D6:∀ k:EV->Aa->R,Al (Cr K (.ptr m 0) h) k=k (.ptr D 0) h
 Bry:Cr K (.ptr m 0) h.lift=some (.ptr D 0,h.lift)
 table:Ok (Gd K (.ptr m 0) h.lift) fun v h'=>v=Qv/\Ext h.lift h'
 device:∀ k:EV->Aa->R,Al (C2 K (.ptr D 0) h) k=k (.ptr V 0) h
 state:∀ (i:Int) (k:EV->Aa->R),Al (R5 K (.ptr V 0) (I i) h) k=k (I (if S.dr.dv.has i=true then (S.dr.dv.zs i.toNat).st else 4)) h
 reset:∀ {d:Nat},14<=d->∀ i:Int,0<(S.dr.begin i).dv.size->Ok (Ad TT disp K d false 202 [.ptr D 0,I i] h) fun v h'=>v=I (S.dr.reset i).2/\Fc h' m { S with dr:=(S.dr.reset i).1 } F/\Kf F h h'/\HB h'
 finish:∀ {d:Nat},14<=d->∀ i:Int,Ok (Ad TT disp K d false 165 [.ptr D 0,I i] h) fun v h'=>v=I (S.dr.finish i).2/\Fc h' m { S with dr:=(S.dr.finish i).1 } F/\Kf F h h'/\HB h'
 flush:∀ {d:Nat},14<=d->Ok (Ad TT disp K d false 67 [.ptr D 0] h) fun v h'=>v=I S.dr.flush.2/\Fc h' m { S with dr:=S.dr.flush.1 } F/\Kf F h h'/\HB h'
 append:∀ {d:Nat},14<=d->∀ (z:Int) {x:List EV},x.length=64->U8 x->∀ {i b:Nat} {s:DX} {k:EV->Aa->DX->R} {Q:EV->Aa->Prop},Sz b s=true->loose b s.nw = []->(∀ w,Ob b w s.Ck=true) ->
  (∀ h' s',Fc h' m { S with dr:=(S.dr.append z x).1 } F->Kf F h h'->HB h'->Ok (k (.tuple [I (S.dr.append z x).2.1,I (S.dr.append z x).2.2]) h' s') Q)->Ok (Ev.Cs i b s h (fun h=>Ad TT disp K d false 164 [.ptr D 0,I z,.agg x] h) k) Q
theorem Bct(A:Aq disp)(hK:10000<K){h:Aa}{m:Nat}{S:Mi}{F:Nat->Prop}(M:Fc h m S F)(hb:HB h):∃ D V,Bg3 disp K h m S F D V:=by
 obtain⟨lt,D,p,bl,ql,np,q,c,G,a⟩:=M.s
 obtain⟨V,M',qc,qh,cs,hs,ms,F',b⟩:=a.drv.Pb
 have due:Av3 disp K S.dr:=Au7 A (by omega) S.dr
 have mL:=a.J4.ext (h':=h.lift) fun i o g=>by rw[Di];exact g
 refine⟨D,V,⟨fun k=>by rw[P0 a.J4,Bg],P0 mL,Adl mL (F0 hb),fun k=>by rw[Aha b,Bg],fun i k=>by rw[Awb b.dev,Bg],?_,?_,?_,?_⟩⟩
 ·intro d hd i hs
  refine(Auj A (by omega) hd due a.drv hb i hs).mono ?_
  rintro _ h' ⟨rfl,s2,c2,hb2⟩
  obtain⟨M2,k2⟩:=M.drv hb a s2 c2
  exact⟨rfl,M2,k2,hb2⟩
 ·intro d hd i
  refine(Aho A hd due a.drv hb i).mono ?_
  rintro _ h' ⟨rfl,s2,c2,hb2⟩
  obtain⟨M2,k2⟩:=M.drv hb a s2 c2
  exact⟨rfl,M2,k2,hb2⟩
 ·intro d hd
  refine(Ajy A (by omega) hd due a.drv hb).mono ?_
  rintro _ h' ⟨rfl,s2,c2,hb2⟩
  obtain⟨M2,k2⟩:=M.drv hb a s2 c2
  exact⟨rfl,M2,k2,hb2⟩
 ·intro d hd z x hx hu i b' s k Q b0 b1 b2 hk
  refine Ok.Anz (S:=G) b0 b1 b2 (Ahc (K:=K) A (by omega) (d:=d) hd due a.drv.lift (F0 hb) z hx hu) (fun _ _ p=>p.2.2.1) ?_
  rintro _ h6 h7 s' ⟨rfl,d6,_,hb6⟩ sm c7 _
  obtain⟨M7,k7⟩:=M.drv hb a (d6.same sm) c7
  exact hk h7 s' M7 k7 (sm.hb hb6)
end Go.Ev
