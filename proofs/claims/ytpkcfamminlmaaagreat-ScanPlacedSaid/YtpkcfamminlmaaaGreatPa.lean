import Derived.Test.YtpkcfamminlmaaaGreatQa
import Derived.Test.YtpkcfamminlmaaaGreatDd
import Derived.Test.YtpkcfamminlmaaaGreatVb
set_option linter.unusedVariables false
set_option linter.unusedSimpArgs false
set_option linter.unusedSectionVars false
namespace Go.Ev
open Go.Proofs
set_option maxRecDepth 100000
variable {K:Nat}{disp:Nat->Option FT}
theorem Ok.Brq {i b:Nat}{s:DX}{h:Aa}{call:Aa->R}{k:EV->Aa->DX->R}{P Q:EV->Aa->Prop}{S:Nat->Prop}(w0:Nat)(hw0:w0<=h.next)(hS:∀ i,S i->w0<=i)(hb:Sz b s=true)(hl:loose b s.nw = [])(hr:∀ w,w0<=w->Ob b w s.Ck=true)(hc:Ok (call h.lift) P)(he:∀ v h1,P v h1->A9 S h.lift h1)
 (hk:∀ v h1 h2 s',P v h1->Akg h1 h2->A9 S h h2->(s'=s.Ww i\/∃ w,s'=s.Arx i w/\w=h1.mw)->Ok (k v h2 s') Q):Ok (Ev.Cs i b s h call k) Q:=by
 obtain⟨v,h1,e,p⟩:=hc
 have x:=he v h1 p
 have hf:Hb b s h=h.lift:=by unfold Hb;rw[hl];rfl
 have hE:Ev.Cs i b s h call k=Iv i b s h h1 fun s h=>k v h s:=by
  show Ay (Sz b s) (Ev.Al (call (Hb b s h)) fun v h'=>Iv i b s h h' fun s h=>k v h s) none=_
  rw[hb,An,hf,e];rfl
 rw[hE]
 unfold Iv
 rw[hl]
 have sm:∀ w,Akg h1 ⟨h1.t,h1.next,w⟩:=fun w=>⟨fun i=>by rw[Adv,Adv],rfl⟩
 have hg:∀ w i,i<h.next->¬ S i->(⟨h1.t,h1.next,w⟩:Aa).get i=h.get i:=fun w i hi hn=>by
  rw[(sm w).get,x.get i hi hn,Di]
 cases hle:Nat.ble h.next h1.mw with
 | true=>
  rw[An]
  exact hk v h1 _ _ p (sm _) ⟨hg _,x.next,fun w w1 _ _=>w1,fun y=>(sm _).hb (x.hb (F0 y))⟩ (.inl rfl)
 | false=>
  rw[A6,hr _ (x.mw w0 hw0 hw0 hS),An]
  refine hk v h1 _ _ p (sm _) ⟨hg _,x.next,fun w w1 w2 w3=>?_,fun y=>(sm _).hb (x.hb (F0 y))⟩ (.inr ⟨_,rfl,rfl⟩)
  have:=x.mw w w2 w2 w3
  show w<=Ay (Nat.ble h.mw h1.mw) h.mw h1.mw
  rw[Bh];split <;> assumption
theorem Awg {g:Gm}(hr:rtB g=false){h:Aa}(hb:HB h):Ok (Aj6 K (gV g) h) fun v h'=>v=.tuple [.Bi,I 20]/\Ext h h'/\HB h':=by
 simp only[Aj6,gV,Ab]
 have x1:Ext h (h.new (.cells (gL g) 23)):=A9.new _ _
 have g1:(h.new (.cells (gL g) 23)).get h.next=some (.cells (gL g) 23):=Ag _ _
 generalize h.new (.cells (gL g) 23)=h1 at x1 g1 ⊢
 rw[Fy g1 rfl,A3 (n:=6) rfl]
 try simp only[Ab]
 rw[show EV.agg (gL g)=gV g from rfl]
 refine(Aac (K:=K) g h1).Al ?_
 rintro _ h2 ⟨rfl,x2⟩
 rw[hr]
 simp only[Ab]
 have x:=x1.trans x2
 exact .ret ⟨rfl,x,x.hb hb⟩
theorem Rd.same {h h':Aa}{R q off:Nat}{l:List Nat}(d:Rd h R q off l)(sm:Akg h h'):Rd h' R q off l:=by
 obtain⟨s,g,e,f⟩:=d.Pb
 exact⟨⟨s,by rw[sm.get];exact g,e,fun y=>⟨(f y).1,(f y).2.frame (sm.get _)⟩⟩,d.ne⟩
theorem Rd.lift {h:Aa}{R q off:Nat}{l:List Nat}(d:Rd h R q off l):Rd h.lift R q off l:=d.same (Akg.lift h)
theorem A46:TT.size 60=some 4/\TT.agg 60=some true:=⟨by kernel_rfl,by kernel_rfl⟩
theorem Asg(hK:10000<K){h:Aa}{f:Fr}(w:f.Wf)(hb:HB h)(hD:Nc ((f.body.drop 6).take 1)<3):Ok (Yt K (.agg f.cells) h) fun v h'=>∃ a b c d,v=.tuple [.agg [a,b,c,d],I 20]/\Ext h h'/\HB h':=by
 have fl:=Fr.Ce w
 simp only[Yt,Ab]
 have x1:Ext h ((h.new (.cells f.cells 120)).new (.cells [.int .i64 0,.int .i64 0,.int .i64 0,.Bi] 60)):=(A9.new _ _).Fp _
 have g1:((h.new (.cells f.cells 120)).new (.cells [.int .i64 0,.int .i64 0,.int .i64 0,.Bi] 60)).get h.next=some (.cells f.cells 120):=by
  rw[Bd _ (Nat.lt_succ_self _)];exact Ag _ _
 have g2:((h.new (.cells f.cells 120)).new (.cells [.int .i64 0,.int .i64 0,.int .i64 0,.Bi] 60)).get (h.next+1)=some (.cells [.int .i64 0,.int .i64 0,.int .i64 0,.Bi] 60):=Ag _ _
 have n1:((h.new (.cells f.cells 120)).new (.cells [.int .i64 0,.int .i64 0,.int .i64 0,.Bi] 60)).next=h.next+2:=rfl
 rw[show (h.new (.cells f.cells 120)).next=h.next+1 from rfl]
 generalize (h.new (.cells f.cells 120)).new (.cells [.int .i64 0,.int .i64 0,.int .i64 0,.Bi] 60)=h1 at x1 g1 g2 n1 ⊢
 have hb1:=x1.hb hb
 rw[show ∀ k:EV->R,Pe 44 1 (.ptr h.next 5) none none none k=k (.slice h.next 5 44 44 false) from fun k=>rfl]
 have ul:(Dl f.body).length=44:=by rw[Cu,w.len]
 have bs:Bs h1 (.slice h.next 5 44 44 false) h.next 5 f.body:=by
  refine⟨44,false,_,f.cells,by rw[w.len],by rw[w.len];omega,g1,rfl,by rw[w.len,fl];omega,?_⟩
  show (Dl f.body).take f.body.length=_
  rw[w.len,<-ul,List.take_length]
 refine(Ajk (K:=K) bs hb1 (by rw[w.len];omega) (by rw[w.len];omega)).Al ?_
 rintro _ h5 ⟨Rr,q,rfl,d0,x5,hb5,lq5⟩
 have g15:=x5.at hb1 g1
 have g25:=x5.at hb1 g2
 have l15:=hb5 _ _ g15
 have hR4:h.next+1<Rr:=by have:=d0.ne;omega
 have x15:Ext h h5:=x1.trans x5
 have hu:=w.u8
 have hl:=w.len
 simp only[Ab,Bz]
 rw[A4 l15 (by kernel_rfl),C3 g15 rfl (v:=I f.seq) rfl]
 try simp only[Ab,Bz]
 rw[A4 l15 (by kernel_rfl),C3 g15 rfl (v:=I f.Ax) rfl]
 try simp only[Ab,Bz]
 refine Ok.Brq (S:=fun i=>i=Rr) (h.next+1) (by have:=x5.next;omega) (fun i hi=>by have hi:i=Rr:=hi;omega) (by kernel_rfl) (by kernel_rfl) (fun _ hw=>by
  simp only[Ob]
  rw[Nat.ble_eq_true_of_le (show Nat.succ h.next<=_ from hw)]
  rfl) (Tu (K:=K) (w:=6) d0.lift (F0 hb5) (by omega) (by decide) (by decide) (by omega) hu) (fun _ _ p=>p.2.2.1) ?_
 rintro _ h6' h6 s' ⟨rfl,d1',_,hb6'⟩ sm c6 hs'
 have hb6:=sm.hb hb6'
 have d1:=d1'.same sm
 have x6:Ext h h6:=x15.then c6 fun j hj hlt=>by
  have hj:j=Rr:=hj
  omega
 have g26:=c6.at hb5 g25 (by show ¬ h.next+1=Rr;omega)
 have up:∀ {ha hc:Aa},Ext h ha->A9 (fun i=>i=Rr) ha hc->Ext h hc:=fun x c=>x.then c fun j hj hlt=>by
  have hj:j=Rr:=hj
  omega
 have keep:∀ {ha hc:Aa} {i:Nat} {o:C7},A9 (fun i=>i=Rr) ha hc->HB ha->ha.get i=some o->i ≠ Rr->hc.get i=some o:=fun c hb g hi=>c.at hb g hi
 have lR:Rr<h6.next:=by obtain⟨_,g,_⟩:=d1.Pb;exact hb6 _ _ g
 rw[B6 (l:=[I f.seq,I f.Ax,Nk .i64 (Nc (f.body.take 6)),.Bi]) rfl]
 try simp only[Ab,Bz]
 rw[O4 (by rcases hs' with rfl|⟨w,rfl,_⟩ <;> kernel_rfl)]
 refine Ok.stW (Ag _ _) rfl rfl ?_
 have x7:Ext h6 ((h6.new (.cells [.int .i64 0,.int .i64 0,.int .i64 0,.Bi] 60)).put h6.next (.cells [I f.seq,I f.Ax,Nk .i64 (Nc (f.body.take 6)),.Bi] 60)):=(A9.new h6 _:Ext _ _).A5 (.inr (Nat.le_refl _)) (Nat.lt_succ_self _) _
 have g57:((h6.new (.cells [.int .i64 0,.int .i64 0,.int .i64 0,.Bi] 60)).put h6.next (.cells [I f.seq,I f.Ax,Nk .i64 (Nc (f.body.take 6)),.Bi] 60)).get h6.next=some (.cells [I f.seq,I f.Ax,Nk .i64 (Nc (f.body.take 6)),.Bi] 60):=Aj _ _ _
 have n7:((h6.new (.cells [.int .i64 0,.int .i64 0,.int .i64 0,.Bi] 60)).put h6.next (.cells [I f.seq,I f.Ax,Nk .i64 (Nc (f.body.take 6)),.Bi] 60)).next=h6.next+1:=rfl
 generalize (h6.new (.cells [.int .i64 0,.int .i64 0,.int .i64 0,.Bi] 60)).put h6.next (.cells [I f.seq,I f.Ax,Nk .i64 (Nc (f.body.take 6)),.Bi] 60)=h7 at x7 g57 n7 ⊢
 have hb7:=x7.hb hb6
 have d17:=d1.ext hb6 x7
 have g27:=x7.at hb6 g26
 have xx7:Ext h h7:=x6.trans x7
 have hu6:∀ b ∈ f.body.drop 6,b<256:=fun b hb=>hu b (List.mem_of_mem_drop hb)
 refine(Tu (K:=K) (w:=1) d17 hb7 (by omega) (by decide) (by decide) (by simp only[List.length_drop];omega) hu6).Al ?_
 rintro _ h8 ⟨rfl,d2,c8,hb8⟩
 have g28:=keep c8 hb7 g27 (by omega)
 have g58:=keep c8 hb7 g57 (by omega)
 have x8:=up xx7 c8
 refine(Tu (K:=K) (w:=1) d2 hb8 (by omega) (by decide) (by decide) (by simp only[List.length_drop];omega) (fun b hb=>hu6 b (List.mem_of_mem_drop hb))).Al ?_
 rintro _ h9 ⟨rfl,d3,c9,hb9⟩
 have g29:=keep c9 hb8 g28 (by omega)
 have g59:=keep c9 hb8 g58 (by omega)
 have x9:=up x8 c9
 refine(Tu (K:=K) (w:=1) d3 hb9 (by omega) (by decide) (by decide) (by simp only[List.length_drop];omega) (fun b hb=>hu6 b (List.mem_of_mem_drop (List.mem_of_mem_drop hb)))).Al ?_
 rintro _ ha ⟨rfl,d4,ca,hba⟩
 have g2a:=keep ca hb9 g29 (by omega)
 have g5a:=keep ca hb9 g59 (by omega)
 have xa:=up x9 ca
 generalize hDv:Nc ((f.body.drop 6).take 1)=vD at hD
 generalize Nc (((f.body.drop 6).drop 1).take 1)=vZ
 generalize Nc ((((f.body.drop 6).drop 1).drop 1).take 1)=vS
 rw[B6 (l:=[Nk .i64 vD,Nk .i64 vZ,Nk .i64 vS,.int .i64 0,.int .i64 0,.int .i64 0]) rfl]
 try simp only[Ab]
 refine Ok.stW (Ag _ _) rfl rfl ?_
 have xb:Ext ha ((ha.new (.cells [.int .i64 0,.int .i64 0,.int .i64 0,.int .i64 0,.int .i64 0,.int .i64 0] 23)).put ha.next (.cells [Nk .i64 vD,Nk .i64 vZ,Nk .i64 vS,.int .i64 0,.int .i64 0,.int .i64 0] 23)):=(A9.new ha _:Ext _ _).A5 (.inr (Nat.le_refl _)) (Nat.lt_succ_self _) _
 have g6b:((ha.new (.cells [.int .i64 0,.int .i64 0,.int .i64 0,.int .i64 0,.int .i64 0,.int .i64 0] 23)).put ha.next (.cells [Nk .i64 vD,Nk .i64 vZ,Nk .i64 vS,.int .i64 0,.int .i64 0,.int .i64 0] 23)).get ha.next=some (.cells [Nk .i64 vD,Nk .i64 vZ,Nk .i64 vS,.int .i64 0,.int .i64 0,.int .i64 0] 23):=Aj _ _ _
 generalize (ha.new (.cells [.int .i64 0,.int .i64 0,.int .i64 0,.int .i64 0,.int .i64 0,.int .i64 0] 23)).put ha.next (.cells [Nk .i64 vD,Nk .i64 vZ,Nk .i64 vS,.int .i64 0,.int .i64 0,.int .i64 0] 23)=hB at xb g6b ⊢
 have hbb:=xb.hb hba
 have la5:=hba _ _ g5a
 have ld4:Rr<ha.next:=by obtain⟨_,g,_⟩:=d4.Pb;exact hba _ _ g
 have g2b:=xb.at hba g2a
 have g5b:=xb.at hba g5a
 have d4b:=d4.ext hba xb
 have xxb:Ext h hB:=xa.trans xb
 refine(Tu (K:=K) (w:=2) d4b hbb (by omega) (by decide) (by decide) (by simp only[List.length_drop];omega) (fun b hb=>hu6 b (List.mem_of_mem_drop (List.mem_of_mem_drop (List.mem_of_mem_drop hb))))).Al ?_
 rintro _ hc ⟨rfl,d5,cc,hbc⟩
 have g2c:=keep cc hbb g2b (by omega)
 have g5c:=keep cc hbb g5b (by omega)
 have g6c:=keep cc hbb g6b (by omega)
 have xc:=up xxb cc
 refine(Tu (K:=K) (w:=1) d5 hbc (by omega) (by decide) (by decide) (by simp only[List.length_drop];omega) (fun b hb=>hu6 b (List.mem_of_mem_drop (List.mem_of_mem_drop (List.mem_of_mem_drop (List.mem_of_mem_drop hb)))))).Al ?_
 rintro _ hd ⟨rfl,d6,cd,hbd⟩
 have g2d:=keep cd hbc g2c (by omega)
 have g5d:=keep cd hbc g5c (by omega)
 have g6d:=keep cd hbc g6c (by omega)
 have xd:=up xc cd
 refine(Tu (K:=K) (w:=1) d6 hbd (by omega) (by decide) (by decide) (by simp only[List.length_drop];omega) (fun b hb=>hu6 b (List.mem_of_mem_drop (List.mem_of_mem_drop (List.mem_of_mem_drop (List.mem_of_mem_drop (List.mem_of_mem_drop hb))))))).Al ?_
 rintro _ he ⟨rfl,d7,ce,hbe⟩
 have g2e:=keep ce hbd g2d (by omega)
 have g5e:=keep ce hbd g5d (by omega)
 have g6e:=keep ce hbd g6d (by omega)
 have xe:=up xd ce
 generalize Nc (((((f.body.drop 6).drop 1).drop 1).drop 1).take 2)=vB
 generalize Nc ((((((f.body.drop 6).drop 1).drop 1).drop 1).drop 2).take 1)=vP
 generalize Nc (((((((f.body.drop 6).drop 1).drop 1).drop 1).drop 2).drop 1).take 1)=vO
 have l6:=hbe _ _ g6e
 try simp only[Ab]
 refine Ok.st1 g6e rfl rfl (by show 3<6;decide) ?_
 try simp only[Ab]
 refine Ok.st1 (Aj _ _ _) rfl rfl (by show 4<6;decide) ?_
 try simp only[Ab]
 refine Ok.st1 (Aj _ _ _) rfl rfl (by show 5<6;decide) ?_
 have xf:Ext h (((he.put ha.next (.cells ([Nk .i64 vD,Nk .i64 vZ,Nk .i64 vS,.int .i64 0,.int .i64 0,.int .i64 0].set 3 (Nk .i64 vB)) 23)).put ha.next (.cells (([Nk .i64 vD,Nk .i64 vZ,Nk .i64 vS,.int .i64 0,.int .i64 0,.int .i64 0].set 3 (Nk .i64 vB)).set 4 (Nk .i64 vP)) 23)).put ha.next (.cells ((([Nk .i64 vD,Nk .i64 vZ,Nk .i64 vS,.int .i64 0,.int .i64 0,.int .i64 0].set 3 (Nk .i64 vB)).set 4 (Nk .i64 vP)).set 5 (Nk .i64 vO)) 23)):=((xe.A5 (.inr (by have:=xa.next;omega)) l6 _).A5 (.inr (by have:=xa.next;omega)) l6 _).A5 (.inr (by have:=xa.next;omega)) l6 _
 have g6f:(((he.put ha.next (.cells ([Nk .i64 vD,Nk .i64 vZ,Nk .i64 vS,.int .i64 0,.int .i64 0,.int .i64 0].set 3 (Nk .i64 vB)) 23)).put ha.next (.cells (([Nk .i64 vD,Nk .i64 vZ,Nk .i64 vS,.int .i64 0,.int .i64 0,.int .i64 0].set 3 (Nk .i64 vB)).set 4 (Nk .i64 vP)) 23)).put ha.next (.cells ((([Nk .i64 vD,Nk .i64 vZ,Nk .i64 vS,.int .i64 0,.int .i64 0,.int .i64 0].set 3 (Nk .i64 vB)).set 4 (Nk .i64 vP)).set 5 (Nk .i64 vO)) 23)).get ha.next=some (.cells (gL ⟨vD,vZ,vS,vB,vP,vO⟩) 23):=Aj _ _ _
 have g2f:(((he.put ha.next (.cells ([Nk .i64 vD,Nk .i64 vZ,Nk .i64 vS,.int .i64 0,.int .i64 0,.int .i64 0].set 3 (Nk .i64 vB)) 23)).put ha.next (.cells (([Nk .i64 vD,Nk .i64 vZ,Nk .i64 vS,.int .i64 0,.int .i64 0,.int .i64 0].set 3 (Nk .i64 vB)).set 4 (Nk .i64 vP)) 23)).put ha.next (.cells ((([Nk .i64 vD,Nk .i64 vZ,Nk .i64 vS,.int .i64 0,.int .i64 0,.int .i64 0].set 3 (Nk .i64 vB)).set 4 (Nk .i64 vP)).set 5 (Nk .i64 vO)) 23)).get (h.next+1)=some (.cells [.int .i64 0,.int .i64 0,.int .i64 0,.Bi] 60):=by
  rw[As _ (by omega),As _ (by omega),As _ (by omega)];exact g2e
 have g5f:(((he.put ha.next (.cells ([Nk .i64 vD,Nk .i64 vZ,Nk .i64 vS,.int .i64 0,.int .i64 0,.int .i64 0].set 3 (Nk .i64 vB)) 23)).put ha.next (.cells (([Nk .i64 vD,Nk .i64 vZ,Nk .i64 vS,.int .i64 0,.int .i64 0,.int .i64 0].set 3 (Nk .i64 vB)).set 4 (Nk .i64 vP)) 23)).put ha.next (.cells ((([Nk .i64 vD,Nk .i64 vZ,Nk .i64 vS,.int .i64 0,.int .i64 0,.int .i64 0].set 3 (Nk .i64 vB)).set 4 (Nk .i64 vP)).set 5 (Nk .i64 vO)) 23)).get h6.next=some (.cells [I f.seq,I f.Ax,Nk .i64 (Nc (f.body.take 6)),.Bi] 60):=by
  rw[As _ (by omega),As _ (by omega),As _ (by omega)];exact g5e
 generalize ((he.put ha.next (.cells ([Nk .i64 vD,Nk .i64 vZ,Nk .i64 vS,.int .i64 0,.int .i64 0,.int .i64 0].set 3 (Nk .i64 vB)) 23)).put ha.next (.cells (([Nk .i64 vD,Nk .i64 vZ,Nk .i64 vS,.int .i64 0,.int .i64 0,.int .i64 0].set 3 (Nk .i64 vB)).set 4 (Nk .i64 vP)) 23)).put ha.next (.cells ((([Nk .i64 vD,Nk .i64 vZ,Nk .i64 vS,.int .i64 0,.int .i64 0,.int .i64 0].set 3 (Nk .i64 vB)).set 4 (Nk .i64 vP)).set 5 (Nk .i64 vO)) 23)=hf at xf g6f g2f g5f ⊢
 have hbf:=xf.hb hb
 rw[Fy g6f rfl,A3 (n:=6) rfl]
 simp only[Ab]
 have hrt:rtB ⟨vD,vZ,vS,vB,vP,vO⟩=false:=by
  cases hr:rtB ⟨vD,vZ,vS,vB,vP,vO⟩ with
  | false=>rfl
  | true=>
   have:=(Al9 hr).d0
   have:(3:Int)<=(vD:Int):=this
   omega
 refine(Awg (K:=K) hrt hbf).Al ?_
 rintro _ hg ⟨rfl,xg,hbg⟩
 have l5:=hbg _ _ (xg.at hbf g5f)
 have l2:=hbg _ _ (xg.at hbf g2f)
 try simp only[Ab]
 refine Ok.st1 (xg.at hbf g5f) rfl rfl (by show 3<4;decide) ?_
 rw[Fy (Aj _ _ _) rfl,A3 (n:=4) rfl]
 simp only[Ab]
 refine Ok.stW (by rw[As _ (by omega)];exact xg.at hbf g2f) rfl rfl ?_
 rw[Hs (Aj _ _ _) A46.1 A46.2 rfl]
 exact .ret ⟨_,_,_,_,rfl,((xf.trans xg).A5 (.inr (by have:=x6.next;omega)) l5 _).A5 (.inr (Nat.le_succ _)) l2 _,(hbg.put l5 _).put l2 _⟩
def A8a(L:List Fr):Prop:=∀ f ∈ L,f.Wf/\Nc ((f.body.drop 6).take 1)<3
theorem Bbm {L:List Fr}(hI:∀ f ∈ L,f.Wf){i:Nat}{f:Fr}(hf:L[i]? = some f):Nf (L.map Fr.cells).flatten (i*49) 49=some f.cells:=
 Aby (n:=49) _ _ _ (fun x hx=>by obtain⟨f,hf,rfl⟩:=List.mem_map.1 hx;exact Fr.Ce (hI f hf)) (by rw[List.getElem?_map,hf];rfl)
theorem Avr(A:Aq disp)(hK:10000<K){d:Nat}(hd:9<=d){h:Aa}{s:EV}{q:Nat}{L:List Fr}(r:Anw h s q 120 49 L.length (L.map Fr.cells).flatten)(hL:A8a L)(hb:HB h):Ok (Ad TT disp K d false 109 [s] h) fun v h'=>∃ a b c d,v=.tuple [.agg [a,b,c,d],I 10]/\Ext h h'/\HB h':=by
 obtain⟨e,rfl⟩:∃ k,d=k+1:=⟨d-1,by omega⟩
 rw[Ar3 A (by omega)]
 simp only[Asv,Ab]
 have x1:Ext h (h.new (.cells [.int .i64 0,.int .i64 0,.int .i64 0,.Bi] 60)):=A9.new _ _
 have g1:(h.new (.cells [.int .i64 0,.int .i64 0,.int .i64 0,.Bi] 60)).get h.next=some (.cells [.int .i64 0,.int .i64 0,.int .i64 0,.Bi] 60):=Ag _ _
 have n1:(h.new (.cells [.int .i64 0,.int .i64 0,.int .i64 0,.Bi] 60)).next=h.next+1:=rfl
 generalize h.new (.cells [.int .i64 0,.int .i64 0,.int .i64 0,.Bi] 60)=h1 at x1 g1 n1 ⊢
 have hb1:=x1.hb hb
 have r1:=r.frame (h':=h1) fun y=>x1.get _ (r.lt hb y) id
 rw[r1.E9]
 simp only[I,Ai]
 have no:∀ h2,Ext h1 h2->HB h2->Ok (B7 (Dj [(0,1),(1,1),(2,1),(3,1)]) [.int .i64 0,.int .i64 0,.int .i64 0,.Bi] [] fun v15=>Dw 4 (.ptr h.next 0) v15 h2 fun hh=>Ct TT [.c (.ptr h.next 0) 60,.v (.int .i64 10)] hh) fun v h'=>∃ a b c d,v=.tuple [.agg [a,b,c,d],I 10]/\Ext h h'/\HB h':=by
  intro h2 x2 hb2
  have g2:=x2.at hb1 g1
  have l2:=hb2 _ _ g2
  rw[B6 (l:=[.int .i64 0,.int .i64 0,.int .i64 0,.Bi]) rfl]
  refine Ok.stW g2 rfl rfl ?_
  rw[Hs (Aj _ _ _) A46.1 A46.2 rfl]
  exact .ret ⟨_,_,_,_,rfl,(x1.trans x2).A5 (.inr (Nat.le_refl _)) l2 _,hb2.put l2 _⟩
 by_cases h0:L.length=0
 ·have:decide ((L.length:Int)=0)=true:=decide_eq_true (by omega)
  simp only[this,Ab]
  exact no h1 (A9.refl _) hb1
 ·have:decide ((L.length:Int)=0)=false:=decide_eq_false (by omega)
  simp only[this,Ab,Ahe]
  have hlt:0<L.length:=by omega
  have e1:=Bbm (fun f hf=>(hL f hf).1) (List.getElem?_eq_getElem hlt)
  have ix:=r1.ix hlt
  simp only[I]at ix
  obtain⟨fw,fd⟩:=hL _ (List.getElem_mem hlt)
  rw[show (EV.int .i64 0)=.int .i64 ((0:Nat):Int) from rfl,ix,r1.ldN hlt e1]
  refine(Asg hK fw hb1 fd).Al ?_
  rintro _ h2 ⟨a,b,c,dd,rfl,x2,hb2⟩
  simp only[Ab]
  refine Ok.stW (Ag _ _) rfl rfl ?_
  have x3:Ext h2 ((h2.new (.cells [.int .i64 0,.int .i64 0,.int .i64 0,.Bi] 60)).put h2.next (.cells [a,b,c,dd] 60)):=(A9.new h2 _:Ext _ _).A5 (.inr (Nat.le_refl _)) (Nat.lt_succ_self _) _
  generalize (h2.new (.cells [.int .i64 0,.int .i64 0,.int .i64 0,.Bi] 60)).put h2.next (.cells [a,b,c,dd] 60)=h3 at x3 ⊢
  have x13:Ext h1 h3:=x2.trans x3
  simp only[I,Ai,show decide (¬ (20:Int)=0)=true from rfl,Ab,Aak]
  exact no h3 x13 (x13.hb hb1)
def Awv(X:List (List EV))(A7:Int):Prop:=∀ (i:Nat) (x:List EV),X[i]? = some x->∃ f:Fr,x=Dl (Ii f)/\f.Wf/\frB f=true/\f.A7=A7/\f.off=i/\Nc ((f.body.drop 6).take 1)<3
theorem Awv.len {X:List (List EV)}{A7:Int}(r:Awv X A7):∀ x ∈ X,x.length=64:=fun x hx=>by
 obtain⟨i,hi,rfl⟩:=List.getElem_of_mem hx
 obtain⟨f,e,w,_⟩:=r i _ (List.getElem?_eq_getElem hi)
 rw[e,Cu,U4 w]
theorem A0e(A:Aq disp)(hK:10000<K){d:Nat}(hd:9<=d){h0:Aa}{v3 v6 qx:Nat}{sx:EV}{X:List (List EV)}{A7:Int}(hX:Awv X A7)(hn:X.length<=200)(l3:h0.next<=v3)(l6:h0.next<=v6)(rx:Bu h0 sx qx 103 64 X.length X.flatten)(hb0:HB h0):∀ (n i:Nat) (h:Aa) (s:EV) (q:Nat) (L:List Fr),X.length-i<n->i<=X.length->Ext h0 h->HB h->h.get v3=some (.cells A8 72)->h.get v6=some (.cells [.int .i64 0,.int .i64 0,.int .i64 0,.Bi] 60)->A8a L->L.length=i->Bu h s q 120 49 i (L.map Fr.cells).flatten->(0<i->h0.next<=q/\q ≠ v3/\q ≠ v6) ->
 Ok (Jj (Ad TT disp K d false) (Ad TT disp K d true) K n (I A7) (.ptr v3 0) (.ptr v6 0) s sx (I X.length) (I i) h) fun v h'=>∃ a b c d,v=.tuple [.agg [a,b,c,d],I 10]/\Ext h0 h'/\HB h':=by
 intro n
 induction n with
 | zero=>intro i h s q L hn;omega
 | succ n ih=>
  intro i h s q L hn' hi xx hb gv g6 nL hL row hq
  rw[Jj]
  simp only[I,Ai]
  by_cases hlt:i<X.length
  ·have e3:decide ((i:Int)<(X.length:Int))=true:=by simp;omega
   simp only[e3,Ab,Ahj]
   have rxh:=rx.frame (h':=h) fun y=>xx.get _ (hb0 _ _ (rx.block y)) id
   have e1:Nf X.flatten (i*64) 64=some X[i]:=Aby (n:=64) _ _ _ hX.len (List.getElem?_eq_getElem hlt)
   obtain⟨f,ef,fw,fr,fz,fo,fd⟩:=hX i _ (List.getElem?_eq_getElem hlt)
   rw[rxh.ix hlt,Ij (rxh.block (by omega)) rfl e1,ef]
   have el:=U4 fw
   try simp only[Ab]
   refine Ok.stW (Ag _ _) (by simp) (by rw[Cu,el]) ?_
   have x2:Ext h ((h.new (.cells (List.replicate 64 (EV.int .u8 0)) 103)).put h.next (.cells (Dl (Ii f)) 103)):=(A9.new h _:Ext _ _).A5 (.inr (Nat.le_refl _)) (Nat.lt_succ_self _) _
   have g2:((h.new (.cells (List.replicate 64 (EV.int .u8 0)) 103)).put h.next (.cells (Dl (Ii f)) 103)).get h.next=some (.cells (Dl (Ii f)) 103):=Aj _ _ _
   generalize (h.new (.cells (List.replicate 64 (EV.int .u8 0)) 103)).put h.next (.cells (Dl (Ii f)) 103)=h2 at x2 g2 ⊢
   have hb2:=x2.hb hb
   rw[Fy (x2.at hb gv) rfl,A3 (n:=256) Nw]
   simp only[Ab]
   rw[Ij g2 rfl (A3 (by rw[Cu,el]))]
   have fa:=Anc (K:=K) el (Avy fw) hb2 hK A7 i
   have af:=Axe fw fr
   rw[fz,fo]at af
   rw[af]at fa
   simp only[I]at fa
   refine fa.Al ?_
   rintro _ h3 ⟨rfl,_,x3⟩
   have hb3:=x3.hb hb2
   simp only[Ab]
   refine Ok.stW (Ag _ _) (by simp) (Fr.Ce fw) ?_
   have x4:Ext h3 ((h3.new (.cells (List.replicate 5 (EV.int .i64 0)++List.replicate 44 (.int .u8 0)) 120)).put h3.next (.cells f.cells 120)):=(A9.new h3 _:Ext _ _).A5 (.inr (Nat.le_refl _)) (Nat.lt_succ_self _) _
   have g4:((h3.new (.cells (List.replicate 5 (EV.int .i64 0)++List.replicate 44 (.int .u8 0)) 120)).put h3.next (.cells f.cells 120)).get h3.next=some (.cells f.cells 120):=Aj _ _ _
   generalize (h3.new (.cells (List.replicate 5 (EV.int .i64 0)++List.replicate 44 (.int .u8 0)) 120)).put h3.next (.cells f.cells 120)=h4 at x4 g4 ⊢
   have hb4:=x4.hb hb3
   have x24:Ext h h4:=(x2.trans x3).trans x4
   simp only[Ai,not_true_eq_false,decide_false,Ab,Ahp]
   rw[Ij g4 rfl (A3 (Fr.Ce fw))]
   have row4:=row.frame (h':=h4) fun y=>x24.get _ (hb _ _ (row.block y)) id
   refine Of row4 hb4 rfl (by simp) (Fr.Ce fw) (by omega) (by omega) ?_
   intro h5 row5 n5 c5
   simp only[Ahm,Ai]
   rw[C8 (by omega) (by omega),show ((i:Nat):Int)+1=((i+1:Nat):Int) by omega]
   have lv:=hb _ _ gv
   have lv6:=hb _ _ g6
   have nx:=x24.next
   have c:A9 (fun j=>0<i/\j=q) h h5:=(Ext.to x24).trans c5
   refine ih (i+1) h5 _ (h4.next+1) (L++[f]) (by omega) (by omega) (xx.then c fun j hj a=>?_) (c5.hb hb4) (c.at hb gv fun y=>(hq y.1).2.1 y.2.symm) (c.at hb g6 fun y=>(hq y.1).2.2 y.2.symm) ?_ (by rw[List.length_append,hL];rfl) ?_ (fun _=>⟨by have:=xx.next;omega,by omega,by omega⟩)
   ·have:=(hq hj.1).1
    have:=hj.2
    omega
   ·intro g hg
    rcases List.mem_append.1 hg with y|y
    ·exact nL g y
    ·rw[List.mem_singleton]at y
     subst y
     exact⟨fw,fd⟩
   ·rw[List.map_append,List.flatten_append,show ([f].map Fr.cells).flatten=f.cells from List.append_nil _];exact row5
  ·have:i=X.length:=by omega
   subst this
   simp only[show decide ((X.length:Int)<(X.length:Int))=false by simp,Ab,T2]
   refine(Avr (K:=K) A hK hd (L:=L) (.inl (by rw[hL];exact row)) nL hb).Al ?_
   rintro _ h2 ⟨a,b,c,dd,rfl,x2,hb2⟩
   have g62:=x2.at hb g6
   have l62:=hb2 _ _ g62
   simp only[Ab]
   refine Ok.stW g62 rfl rfl ?_
   rw[Hs (Aj _ _ _) A46.1 A46.2 rfl]
   exact .ret ⟨_,_,_,_,rfl,(xx.trans x2).A5 (.inr l6) l62 _,hb2.put l62 _⟩
theorem A6l(A:Aq disp)(hK:10000<K){d:Nat}(hd:10<=d){h:Aa}{sx:EV}{qx:Nat}{X:List (List EV)}{A7:Int}(hX:Awv X A7)(hn:X.length<=200)(rx:Bu h sx qx 103 64 X.length X.flatten)(hb:HB h):
 Ok (Ad TT disp K d false 52 [Qv,I A7,sx] h) fun v h'=>∃ a b c d,v=.tuple [.agg [a,b,c,d],I 10]/\Ext h h'/\HB h':=by
 obtain⟨e,rfl⟩:∃ k,d=k+1:=⟨d-1,by omega⟩
 rw[Ap1 A (by omega)]
 simp only[Aph,Qv,Ab]
 have x1:Ext h ((h.new (.cells A8 72)).new (.cells [.int .i64 0,.int .i64 0,.int .i64 0,.Bi] 60)):=(A9.new _ _).Fp _
 have c1:((h.new (.cells A8 72)).new (.cells [.int .i64 0,.int .i64 0,.int .i64 0,.Bi] 60)).get h.next=some (.cells A8 72):=by rw[Bd _ (Nat.lt_succ_self _)];exact Ag _ _
 have g1:((h.new (.cells A8 72)).new (.cells [.int .i64 0,.int .i64 0,.int .i64 0,.Bi] 60)).get (h.next+1)=some (.cells [.int .i64 0,.int .i64 0,.int .i64 0,.Bi] 60):=Ag _ _
 rw[show (h.new (.cells A8 72)).next=h.next+1 from rfl]
 generalize (h.new (.cells A8 72)).new (.cells [.int .i64 0,.int .i64 0,.int .i64 0,.Bi] 60)=h1 at x1 c1 g1 ⊢
 have hb1:=x1.hb hb
 have le:∀ k:EV->R,E9 sx k=k (I X.length):=fun k=>rx.E9 k
 rw[le]
 exact A0e (K:=K) A hK (d:=e) (by omega) hX hn (Nat.le_refl h.next) (Nat.le_succ _) rx hb K 0 h1 .Af 0 [] (by omega) (by omega) x1 hb1 c1 g1 (fun f hf=>by cases hf) rfl (Bu.nil _ _ _ _) (fun y=>absurd y (Nat.lt_irrefl _))
end Go.Ev

namespace Go.Ev
open Go.Proofs
set_option maxRecDepth 100000
variable {K:Nat}{disp:Nat->Option FT}
def Mi.at(S:Mi)(c:Int):Mi:={ S with dr:={ S.dr with dv:={ S.dr.dv with cnt:=c } } }
structure Up(S:Mi):Prop where
 ev:S.dr.ev = []
 up:S.dr.dv.down=false
theorem Up.at {S:Mi}(u:Up S)(c:Int):Up (S.at c):=⟨u.ev,u.up⟩
theorem Bfn(A:Aq disp)(hK:10000<K){h:Aa}{m:Nat}{S:Mi}{F:Nat->Prop}(M:Fc h m S F)(hb:HB h)(u:Up S){d:Nat}(hd:14<=d){z:Int}(hz:S.dr.dv.has z=true)(hs:¬ (S.dr.dv.zs z.toNat).st=4){off:Nat}{x:List EV}(hx:(S.dr.dv.zs z.toNat).l[off]? = some x){k:EV->Aa->R}{Q:EV->Aa->Prop}
 (hk:∀ h' c,Fc h' m (S.at c) F->Kf F h h'->HB h'->x.length=64->Ok (k (.tuple [.agg x,I 0]) h') Q) :
 Ok (Al (Cr K (.ptr m 0) h) fun v h=>Al (Ad TT disp K d false 133 [v,I z,I off] h) k) Q:=by
 obtain⟨lt,D,p,bl,ql,np,q,c,G,a⟩:=M.s
 rw[P0 a.J4,Bg]
 have hlen:off<(S.dr.dv.zs z.toNat).l.length:=(List.getElem?_eq_some_iff.1 hx).1
 have hr:S.dr.read z off=({ S.dr with dv:=S.dr.dv.tick },x,0):=by
  unfold K4.read
  rw[Aqe u.ev]
  unfold Dv.begin Dv.read
  rw[Amu u.up hz,if_pos rfl,if_neg (fun y=>y rfl)]
  unfold Zp
  rw[if_neg hs,if_pos (by omega),show ((off:Int)).toNat=off from rfl,hx]
  rfl
 refine(Aw3 A hd (Au7 A (by omega) S.dr) a.drv hb z off).Al ?_
 rintro _ h' ⟨rfl,l64,s2,c2,hb2⟩
 rw[hr]at s2 l64 ⊢
 obtain⟨M2,k2⟩:=M.drv hb a s2 c2
 exact hk h' _ M2 k2 hb2 l64
theorem Bcn {h:Aa}{m:Nat}{S:Mi}{F:Nat->Prop}(M:Fc h m S F){z:Int}(hz:S.dr.dv.has z=true)(k:EV->Aa->R):Al (Cr K (.ptr m 0) h) (fun v h=>Al (C2 K v h) fun v h=>Al (J3 K v (I z) h) k)=k (I ((S.dr.dv.zs z.toNat).l.length:Nat)) h:=by
 obtain⟨D,V,G,F',e1,e2,_,dv⟩:=Ba6 (K:=K) M
 rw[e1,Bg,e2,Bg,Az1 dv,Bg,if_pos hz]
theorem Apo(A:Aq disp)(hK:10000<K){d:Nat}(hd:14<=d){m:Nat}{F:Nat->Prop}{z:Int}{S:Mi}(u:Up S)(hz:S.dr.dv.has z=true)(hs:¬ (S.dr.dv.zs z.toNat).st=4){l:List (List EV)}(hl:(S.dr.dv.zs z.toNat).l=l)(hn:l.length<=200){h0:Aa}(hF:∀ i,F i->i<h0.next):∀ (f i:Nat) (h:Aa) (c:Int) (v4 v5:EV) (q1 q2:Nat),l.length-i<f->i<=l.length->Fc h m (S.at c) (fun j=>F j\/(0<i/\(j=q1\/j=q2)))->HB h->Bu h v4 q1 103 64 i (l.take i).flatten->Bu h v5 q2 4 1 i (List.replicate i (.bool true))->(0<i->h0.next<=q1/\h0.next<=q2/\q1 ≠ q2)->Kf F h0 h ->
 Ok (J7 (Ad TT disp K d false) (Ad TT disp K d true) K f (.ptr m 0) (I z) v4 v5 (I l.length) (I i) h) fun w h'=>∃ v4 v5 q1 q2 c,w=.tuple [v4,v5,I 0]/\Bu h' v4 q1 103 64 l.length l.flatten/\Bu h' v5 q2 4 1 l.length (List.replicate l.length (.bool true))/\Fc h' m (S.at c) (fun j=>F j\/(0<l.length/\(j=q1\/j=q2)))/\Kf F h0 h'/\HB h'/\(0<l.length->h0.next<=q1/\h0.next<=q2/\q1 ≠ q2):=by
 intro f
 induction f with
 | zero=>intro i h c v4 v5 q1 q2 hf;omega
 | succ f ih=>
  intro i h c v4 v5 q1 q2 hf hi M hb r4 r5 hq kf
  rw[J7]
  simp only[I,Ai]
  by_cases hlt:i<l.length
  ·have e3:decide ((i:Int)<(l.length:Int))=true:=by simp;omega
   simp only[e3,Ab,Ajz]
   have ex:((S.at c).dr.dv.zs z.toNat).l[i]? = some l[i]:=by
    show (S.dr.dv.zs z.toNat).l[i]? = _
    rw[hl];exact List.getElem?_eq_getElem hlt
   refine Bfn (K:=K) A hK M hb (u.at c) hd (z:=z) hz hs ex ?_
   intro h2 c2 M2 k2 hb2 xl
   have M2:Fc h2 m (S.at c2) (fun j=>F j\/(0<i/\(j=q1\/j=q2))):=M2
   have et:l.take (i+1)=l.take i++[l[i]]:=List.take_succ_eq_append_getElem hlt
   generalize l[i]=x at xl et
   simp only[Ab]
   refine Ok.stW (Ag _ _) (by simp) xl ?_
   have x3:Ext h2 ((h2.new (.cells (List.replicate 64 (EV.int .u8 0)) 103)).put h2.next (.cells x 103)):=(A9.new h2 _:Ext _ _).A5 (.inr (Nat.le_refl _)) (Nat.lt_succ_self _) _
   have g3:((h2.new (.cells (List.replicate 64 (EV.int .u8 0)) 103)).put h2.next (.cells x 103)).get h2.next=some (.cells x 103):=Aj _ _ _
   generalize (h2.new (.cells (List.replicate 64 (EV.int .u8 0)) 103)).put h2.next (.cells x 103)=h3 at x3 g3 ⊢
   have hb3:=x3.hb hb2
   simp only[I,Ai,show decide ((0:Int)=34)=false from rfl,show decide ((0:Int)=32)=false from rfl,Ab,Ajt]
   rw[Ij g3 rfl (A3 xl)]
   have k3:Kf (fun j=>F j\/(0<i/\(j=q1\/j=q2))) h h3:=k2.trans (Ext.to x3)
   have r43:=r4.frame (h':=h3) fun y=>k3.get _ (hb _ _ (r4.block y)) fun w=>w (.inr ⟨y,.inl rfl⟩)
   have r53:=r5.frame (h':=h3) fun y=>k3.get _ (hb _ _ (r5.block y)) fun w=>w (.inr ⟨y,.inr rfl⟩)
   refine Of r43 hb3 rfl (by simp) xl (by omega) (by omega) ?_
   intro h4 r44 n4 c4
   have hb4:=c4.hb hb3
   simp only[decide_true]
   have r54:=r53.frame (h':=h4) fun y=>c4.get _ (hb3 _ _ (r53.block y)) fun w=>(hq y).2.2 w.2.symm
   refine Of r54 hb4 rfl rfl rfl (by omega) (by omega) ?_
   intro h5 r55 n5 c5
   have hb5:=c5.hb hb4
   simp only[Akw,Ai]
   rw[C8 (by omega) (by omega),show ((i:Nat):Int)+1=((i+1:Nat):Int) by omega]
   have l4:=hb4 _ _ (r44.block (by omega))
   have r45:=r44.frame (h':=h5) fun _=>c5.get _ l4 fun w=>by
    have:=w.2
    have:=hb3 _ _ (r53.block w.1)
    omega
   have M5:Fc h5 m (S.at c2) (fun j=>F j\/(0<i+1/\(j=h3.next+1\/j=h4.next+1))):=by
    have N4:=((M2.ext hb2 x3).less fun j (hj:F j\/(0<i/\(j=q1\/j=q2)))=>Or.inl hj).A1c c4 fun j hj _=>.inr ⟨hj.1,.inl hj.2⟩
    have N5:=N4.A1c c5 fun j hj _=>.inl (.inr ⟨hj.1,.inr hj.2⟩)
    refine N5.less fun j hj=>?_
    rcases hj with hj|⟨_,hj|hj⟩
    ·exact .inl (.inl (.inl hj))
    ·exact .inl (.inr ⟨by omega,by omega⟩)
    ·exact .inr ⟨by omega,by omega⟩
   refine ih (i+1) h5 c2 _ _ (h3.next+1) (h4.next+1) (by omega) (by omega) M5 hb5 (by rw[et,List.flatten_append,show ([x]).flatten=x from List.append_nil _];exact r45) (by rw[List.replicate_succ'];exact r55) (fun _=>⟨by have:=kf.next;have:=k3.next;omega,by have:=kf.next;have:=k3.next;omega,by omega⟩) ?_
   have kA:Kf F h0 h3:=kf.trans (k3.less fun j hj=>.inl hj)
   refine kA.trans ((c4.mono fun j hj y=>?_).trans (c5.mono fun j hj y=>?_))
   ·have:=(hq hj.1).1
    have:=hF j y
    have:=hj.2
    omega
   ·have:=(hq hj.1).2.1
    have:=hF j y
    have:=hj.2
    omega
  ·have:i=l.length:=by omega
   subst this
   simp only[show decide ((l.length:Int)<(l.length:Int))=false by simp,Ab,Acg]
   rw[List.take_length]at r4
   exact .ret ⟨v4,v5,q1,q2,c,rfl,r4,r5,M,kf,hb,hq⟩
theorem Av8(A:Aq disp)(hK:10000<K){d:Nat}(hd:15<=d){h:Aa}{m:Nat}{S:Mi}{F:Nat->Prop}(M:Fc h m S F)(hb:HB h)(u:Up S){z:Int}(hz:S.dr.dv.has z=true)(hs:¬ (S.dr.dv.zs z.toNat).st=4){l:List (List EV)}(hl:(S.dr.dv.zs z.toNat).l=l)(hn:l.length<=200):
 Ok (Ad TT disp K d false 93 [.ptr m 0,I z] h) fun w h'=>∃ v4 v5 q1 q2 c,w=.tuple [v4,v5,I 0]/\Bu h' v4 q1 103 64 l.length l.flatten/\Bu h' v5 q2 4 1 l.length (List.replicate l.length (.bool true))/\Fc h' m (S.at c) (fun j=>F j\/(0<l.length/\(j=q1\/j=q2)))/\Kf F h h'/\HB h'/\(0<l.length->h.next<=q1/\h.next<=q2/\q1 ≠ q2):=by
 obtain⟨e,rfl⟩:∃ k,d=k+1:=⟨d-1,by omega⟩
 rw[Asb A (by omega)]
 simp only[As1]
 rw[Bcn M hz,hl]
 exact Apo (K:=K) A hK (d:=e) (by omega) u hz hs hl hn M.lt K 0 h S.dr.dv.cnt .Af .Af 0 0 (by omega) (by omega) (M.less fun j hj=>hj.elim id fun y=>absurd y.1 (Nat.lt_irrefl _)) hb (Bu.nil _ _ _ _) (Bu.nil _ _ _ _) (fun y=>absurd y (Nat.lt_irrefl _)) (A9.refl _)
theorem A09 {v0 v5:EV}{q2 n:Nat}{h:Aa}(r5:Bu h v5 q2 4 1 n (List.replicate n (.bool true)))(hn:n<=200):∀ (f i:Nat),n-i<f->i<=n->Ji K f v0 v5 (I n) (I i) h=some (v0,h):=by
 intro f
 induction f with
 | zero=>intro i hf;omega
 | succ f ih=>
  intro i hf hi
  rw[Ji]
  simp only[I,Ai]
  by_cases hlt:i<n
  ·have e3:decide ((i:Int)<(n:Int))=true:=by simp;omega
   simp only[e3,Ab,Ahh]
   rw[r5.ix hlt,C3 (r5.block (by omega)) rfl (v:=.bool true) (by rw[Nat.mul_one,List.getElem?_replicate,if_pos hlt])]
   simp only[Ab,Ahr,Ai]
   rw[C8 (by omega) (by omega),show ((i:Nat):Int)+1=((i+1:Nat):Int) by omega]
   exact ih (i+1) (by omega) (by omega)
  ·have:i=n:=by omega
   subst this
   simp only[show decide ((i:Int)<(i:Int))=false by simp,Ab,Aaa]
theorem A8x {v0 v5:EV}{q2 n:Nat}{h:Aa}(hK:1000<K)(r5:Bu h v5 q2 4 1 n (List.replicate n (.bool true)))(hn:n<=200):Yv K v0 v5 h=some (v0,h):=by
 simp only[Yv]
 rw[r5.E9]
 exact A09 r5 hn K 0 (by omega) (by omega)
end Go.Ev

namespace Go.Ev
open Go.Proofs
set_option maxRecDepth 100000
variable {K:Nat}{disp:Nat->Option FT}
structure Fd where
 A7:Int
 off:Int
 fr:Fr
def Fd.cells(x:Fd):List EV:=[I x.A7,I x.off]++x.fr.cells
theorem Fd.len {x:Fd}(w:x.fr.Wf):x.cells.length=51:=by
 unfold Fd.cells;rw[List.length_append,Fr.Ce w];rfl
structure Ame(h:Aa)(sc q:Nat)(L:List Fd)(last:Int):Prop where
 Pb:∃ s y,h.get sc=some (.cells [s,y,I last] 112)/\Bu h s q 122 51 L.length (L.map Fd.cells).flatten
 ne:0<L.length->q ≠ sc
theorem Bch {z o:Int}{f:Fr}(w:f.Wf):Wm (Dj [(0,1),(1,1),(2,49)]) [(0,I z),(1,I o),(2,.agg f.cells)] (List.replicate 7 (EV.int .i64 0)++List.replicate 44 (EV.int .u8 0))=some (Fd.mk z o f).cells:=by
 have fl:=Fr.Ce w
 show Ay (Nat.beq (Jh f.cells) 49) (oB (fun z=>some z) (Lt ([I z,I o]++(List.replicate 5 (EV.int .i64 0)++List.replicate 44 (EV.int .u8 0))) 2 f.cells)) none=_
 rw[B8,fl,Ada (by rw[fl];exact Nat.le_refl 51)]
 have e:([I z,I o]++(List.replicate 5 (EV.int .i64 0)++List.replicate 44 (EV.int .u8 0))).drop (2+f.cells.length) = []:=List.drop_of_length_le (by rw[fl];exact Nat.le_refl 51)
 rw[e,List.append_nil];rfl
def Qn(G:List Fr)(last:Int):Int:=G.foldl (fun a f=>max a f.Ax) last
def Cg(z:Int)(G:List Fr):List Fd:=G.map fun f=>⟨z,f.off,f⟩
def Ayl(G:List Fr)(z:Int):Prop:=∀ (i:Nat) (f:Fr),G[i]? = some f->f.Wf/\frB f=true/\f.A7=z/\f.off=i/\Nc ((f.body.drop 6).take 1)<3
theorem Aru(A:Aq disp)(hK:10000<K){d:Nat}(hd:12<=d){m sc:Nat}{S:Mi}{F:Nat->Prop}{z:Int}{v3 v4:EV}{q3 q4:Nat}{G:List Fr}(hw:Ayl G z)(hn:G.length<=200)(f3:0<G.length->F q3)(f4:0<G.length->F q4)(fs:F sc)(n3:q3 ≠ sc)(n4:q4 ≠ sc){h0:Aa}{L0:List Fd}{last0:Int}(hL0:L0.length<=30000){Q:EV->Aa->Prop}
 (hq:∀ h q,Fc h m S (fun j=>F j\/(0<(L0++Cg z G).length/\j=q))->HB h->Ame h sc q (L0++Cg z G) (Qn G last0)->(0<(L0++Cg z G).length->¬ F q)->A9 (fun j=>j=sc\/¬ F j) h0 h->Ok (O3 (Ad TT disp K d false) (Ad TT disp K d true) K (.ptr sc 0) (.ptr m 0) (I z) v3 v4 h) Q) :
 ∀ (f i:Nat) (h:Aa) (q:Nat),G.length-i<f->i<=G.length->Fc h m S (fun j=>F j\/(0<(L0++Cg z (G.take i)).length/\j=q))->HB h->Ame h sc q (L0++Cg z (G.take i)) (Qn (G.take i) last0)->Bu h v3 q3 103 64 G.length (G.map fun f=>Dl (Ii f)).flatten->Bu h v4 q4 4 1 G.length (List.replicate G.length (.bool true))->(0<(L0++Cg z (G.take i)).length->¬ F q)->A9 (fun j=>j=sc\/¬ F j) h0 h ->
  Ok (Hc (Ad TT disp K d false) (Ad TT disp K d true) K f (.ptr sc 0) (.ptr m 0) (I z) v3 v4 v3 (I G.length) (I i) h) Q:=by
 intro f
 induction f with
 | zero=>intro i h q hf;omega
 | succ f ih=>
  intro i h q hf hi M hb sa r3 r4 nq kf
  rw[Hc]
  simp only[I,Ai]
  by_cases hlt:i<G.length
  ·have e3:decide ((i:Int)<(G.length:Int))=true:=by simp;omega
   simp only[e3,Ab,Abr,Bz]
   obtain⟨fw,fr,fz,fo,fd⟩:=hw i _ (List.getElem?_eq_getElem hlt)
   have et:G.take (i+1)=G.take i++[G[i]]:=List.take_succ_eq_append_getElem hlt
   have e1:Nf (G.map fun f=>Dl (Ii f)).flatten (i*64) 64=some (Dl (Ii G[i])):=Aby (n:=64) _ _ _ (fun x hx=>by
    obtain⟨g,hg,rfl⟩:=List.mem_map.1 hx
    obtain⟨k,hk,rfl⟩:=List.getElem_of_mem hg
    rw[Cu,U4 (hw k _ (List.getElem?_eq_getElem hk)).1]) (by rw[List.getElem?_map,List.getElem?_eq_getElem hlt];rfl)
   rw[r3.ix hlt,Ij (r3.block (by omega)) rfl e1]
   generalize G[i]=g at fw fr fz fo fd et e1
   have el:(Dl (Ii g)).length=64:=by rw[Cu,U4 fw]
   try simp only[Ab]
   refine Ok.stW (Ag _ _) (by simp) el ?_
   have x2:Ext h ((h.new (.cells (List.replicate 64 (EV.int .u8 0)) 103)).put h.next (.cells (Dl (Ii g)) 103)):=(A9.new h _:Ext _ _).A5 (.inr (Nat.le_refl _)) (Nat.lt_succ_self _) _
   have g2:((h.new (.cells (List.replicate 64 (EV.int .u8 0)) 103)).put h.next (.cells (Dl (Ii g)) 103)).get h.next=some (.cells (Dl (Ii g)) 103):=Aj _ _ _
   generalize (h.new (.cells (List.replicate 64 (EV.int .u8 0)) 103)).put h.next (.cells (Dl (Ii g)) 103)=h2 at x2 g2 ⊢
   have hb2:=x2.hb hb
   have M2:=(M.ext hb x2).less fun j (hj:F j\/(0<(L0++Cg z (G.take i)).length/\j=q))=>Or.inl hj
   obtain⟨D,V,dr⟩:=Bct A hK M2 hb2
   have l2:=hb2 _ _ g2
   refine Ok.Cs (by kernel_rfl) (by kernel_rfl) dr.table (fun _ _ p=>p.2) ?_
   rintro _ h3' h3 ⟨rfl,_⟩ _ x3
   have hb3:=x3.hb hb2
   have g3:=x3.at hb2 g2
   try simp only[Ab,Bz]
   rw[A4 l2 (by kernel_rfl),Ij g3 rfl (A3 el)]
   try simp only[Ab,Bz]
   have fa:=Anc (K:=K) (U4 fw) (Avy fw) (F0 hb3) hK z i
   have af:=Axe fw fr
   rw[fz,fo]at af
   rw[af]at fa
   simp only[I]at fa
   refine Ok.Cs (by kernel_rfl) (by kernel_rfl) (fa.mono fun _ _ a=>(⟨a.1,a.2.2⟩:_/\_)) (fun _ _ p=>p.2) ?_
   rintro _ h4' h4 ⟨rfl,_⟩ _ x4
   have hb4:=x4.hb hb3
   simp only[Ab,Bz]
   rw[O4 (by kernel_rfl)]
   refine Ok.stW (Ag _ _) (by simp) (Fr.Ce fw) ?_
   have x5:Ext h4 ((h4.new (.cells (List.replicate 5 (EV.int .i64 0)++List.replicate 44 (.int .u8 0)) 120)).put h4.next (.cells g.cells 120)):=(A9.new h4 _:Ext _ _).A5 (.inr (Nat.le_refl _)) (Nat.lt_succ_self _) _
   have g5:((h4.new (.cells (List.replicate 5 (EV.int .i64 0)++List.replicate 44 (.int .u8 0)) 120)).put h4.next (.cells g.cells 120)).get h4.next=some (.cells g.cells 120):=Aj _ _ _
   generalize (h4.new (.cells (List.replicate 5 (EV.int .i64 0)++List.replicate 44 (.int .u8 0)) 120)).put h4.next (.cells g.cells 120)=h5 at x5 g5 ⊢
   have hb5:=x5.hb hb4
   have x25:Ext h h5:=((x2.trans x3).trans x4).trans x5
   have r45:=r4.frame (h':=h5) fun y=>x25.get _ (hb _ _ (r4.block y)) id
   simp only[I,Ai,not_true_eq_false,decide_false,Ab]
   rw[r45.ix hlt,C3 (r45.block (by omega)) rfl (v:=.bool true) (by rw[Nat.mul_one,List.getElem?_replicate,if_pos hlt])]
   simp only[Ab,Tk,Abl,Bz]
   obtain⟨⟨s0,y0,gs,rs⟩,ne⟩:=sa
   have gs5:=x25.at hb gs
   have rs5:=rs.frame (h':=h5) fun y=>x25.get _ (hb _ _ (rs.block y)) id
   have ls5:=hb5 _ _ gs5
   have l5:=hb5 _ _ g5
   rw[A4 ls5 (by kernel_rfl),C3 gs5 rfl (v:=s0) rfl]
   try simp only[Ab,Bz]
   rw[A4 l5 (by kernel_rfl),Ij g5 rfl (A3 (Fr.Ce fw))]
   try simp only[Ab,Bz]
   have ff:=Bch (z:=z) (o:=i) fw
   simp only[I]at ff
   rw[B6 ff,Zg (v:=.agg (Fd.mk z i g).cells) rfl (by simp) (Fd.len fw) (by omega),Bg]
   have fdl:((EV.agg (Fd.mk z i g).cells).cells).length=51:=Fd.len fw
   have x6:Ext h5 (h5.new (.cells (EV.agg (Fd.mk z i g).cells).cells 122)):=A9.new _ _
   have g6:(h5.new (.cells (EV.agg (Fd.mk z i g).cells).cells 122)).get h5.next=some (.cells (EV.agg (Fd.mk z i g).cells).cells 122):=Ag _ _
   have n6:(h5.new (.cells (EV.agg (Fd.mk z i g).cells).cells 122)).next=h5.next+1:=rfl
   generalize (h5.new (.cells (EV.agg (Fd.mk z i g).cells).cells 122))=h6 at x6 g6 n6 ⊢
   have hb6:=x6.hb hb5
   have rs6:=rs5.frame (h':=h6.lift) fun y=>by rw[Di];exact x6.get _ (hb5 _ _ (rs5.block y)) id
   have hLl:(L0++Cg z (G.take i)).length<=31000:=by
    rw[List.length_append];unfold Cg;rw[List.length_map,List.length_take];omega
   obtain⟨h7',e7,r7,n7,c7⟩:=Qe (n:=1) (x:=.slice h5.next 0 1 1 false) rs6 rfl (by omega) (by omega) (by omega) (Xd (h:=h6.lift) (by rw[Di];exact g6) fdl) (by rw[fdl])
   refine Ok.Anz (S:=fun j=>0<(L0++Cg z (G.take i)).length/\j=q) (by kernel_rfl) (by kernel_rfl) (fun _=>by kernel_rfl) (P:=fun v h'=>v=.slice h6.lift.next 0 ((L0++Cg z (G.take i)).length+1) ((L0++Cg z (G.take i)).length+1) true/\h'=h7') ⟨_,_,e7,rfl,rfl⟩ (fun _ _ p=>by rw[p.2];exact c7) ?_
   rintro _ _ h7 s' ⟨rfl,rfl⟩ sm c67 hs'
   have hb7:=c67.hb hb6
   have r7:=r7.frame (h':=h7) fun _=>sm.get _
   have ls6:=x6.at hb5 gs5
   have gs7:=c67.at hb6 ls6 fun y=>ne y.1 y.2.symm
   have g57:=c67.at hb6 (x6.at hb5 g5) fun y=>by
    have:=rs.block y.1
    have:=hb _ _ this
    have:=y.2
    have:=((x2.trans x3).trans x4:Ext h h4).next
    omega
   have ls7:=hb7 _ _ gs7
   have l57:=hb7 _ _ g57
   try simp only[Ab,Bz]
   rw[O4 (by rcases hs' with rfl|⟨w,rfl,_⟩ <;> kernel_rfl)]
   refine Ok.st1 gs7 rfl rfl (by show 0<3;decide) ?_
   have nh7:h7.next=h6.next+1:=by rw[sm.next,n7];rfl
   have hsc:sc<h4.next:=by
    have:=hb _ _ gs
    have:=((x2.trans x3).trans x4:Ext h h4).next
    omega
   have p8:A9 (fun j=>j=sc) h7 (h7.put sc (.cells ([s0,y0,I (Qn (G.take i) last0)].set 0 (.slice h6.lift.next 0 ((L0++Cg z (G.take i)).length+1) ((L0++Cg z (G.take i)).length+1) true)) 112)):=(A9.refl (S:=fun j=>j=sc) h7).A5 (.inl rfl) ls7 _
   have gs8:(h7.put sc (.cells ([s0,y0,I (Qn (G.take i) last0)].set 0 (.slice h6.lift.next 0 ((L0++Cg z (G.take i)).length+1) ((L0++Cg z (G.take i)).length+1) true)) 112)).get sc=some (.cells [.slice h6.lift.next 0 ((L0++Cg z (G.take i)).length+1) ((L0++Cg z (G.take i)).length+1) true,y0,I (Qn (G.take i) last0)] 112):=Aj _ _ _
   generalize h7.put sc (.cells ([s0,y0,I (Qn (G.take i) last0)].set 0 (.slice h6.lift.next 0 ((L0++Cg z (G.take i)).length+1) ((L0++Cg z (G.take i)).length+1) true)) 112)=h8 at p8 gs8 ⊢
   have hb8:=p8.hb hb7
   have g58:=p8.at hb7 g57 (by show ¬ h4.next=sc;omega)
   have ls8:=hb8 _ _ gs8
   have l58:=hb8 _ _ g58
   rw[A4 ls8 (by kernel_rfl),C3 gs8 rfl (v:=I (Qn (G.take i) last0)) rfl]
   try simp only[Ab,Bz]
   rw[A4 l58 (by kernel_rfl),C3 g58 rfl (v:=I g.Ax) rfl]
   try simp only[Ab,Bz]
   have pe:∀ k:Aa->R,Bcb h8 k=k ⟨.nil,h8.next,h8.next⟩:=fun k=>rfl
   rw[pe]
   unfold I
   rw[Brh,Bg,O4 (by kernel_rfl)]
   refine Ok.st1 gs8 rfl rfl (by show 2<3;decide) ?_
   have p9:A9 (fun j=>j=sc) h8 (h8.put sc (.cells ([.slice h6.lift.next 0 ((L0++Cg z (G.take i)).length+1) ((L0++Cg z (G.take i)).length+1) true,y0,I (Qn (G.take i) last0)].set 2 (I (max (Qn (G.take i) last0) g.Ax))) 112)):=(A9.refl (S:=fun j=>j=sc) h8).A5 (.inl rfl) ls8 _
   have gs9:(h8.put sc (.cells ([.slice h6.lift.next 0 ((L0++Cg z (G.take i)).length+1) ((L0++Cg z (G.take i)).length+1) true,y0,I (Qn (G.take i) last0)].set 2 (I (max (Qn (G.take i) last0) g.Ax))) 112)).get sc=some (.cells [.slice h6.lift.next 0 ((L0++Cg z (G.take i)).length+1) ((L0++Cg z (G.take i)).length+1) true,y0,I (max (Qn (G.take i) last0) g.Ax)] 112):=Aj _ _ _
   simp only[I]at p9 gs9
   generalize h8.put sc _=h9 at p9 gs9 ⊢
   have hb9:=p9.hb hb8
   simp only[Tx,Ai]
   rw[C8 (by omega) (by omega),show ((i:Nat):Int)+1=((i+1:Nat):Int) by omega]
   have p79:A9 (fun j=>j=sc) h7 h9:=p8.trans p9
   have x26:Ext h h6:=x25.trans x6
   have lsc:=hb _ _ gs
   have hln:h.next<=h6.next:=x26.next
   have eF:L0++Cg z (G.take (i+1))=(L0++Cg z (G.take i))++[Fd.mk z i g]:=by
    rw[et,List.append_assoc]
    unfold Cg
    rw[List.map_append,List.map_cons,List.map_nil,fo]
   have eL:Qn (G.take (i+1)) last0=max (Qn (G.take i) last0) g.Ax:=by
    rw[et];unfold Qn;rw[List.foldl_append];rfl
   have N6:=M.ext hb x26
   have N7:=N6.A1c c67 fun j hj _=>.inl (.inr hj)
   have N9:=N7.Arx p79 fun j hj _=>.inl (.inl (.inl (by
    have hj:j=sc:=hj
    subst hj;exact fs)))
   have l7:=hb7 _ _ (r7.block (by omega))
   have r9:Bu h9 (.slice h6.lift.next 0 ((L0++Cg z (G.take i)).length+1) ((L0++Cg z (G.take i)).length+1) true) h6.next 122 51 ((L0++Cg z (G.take i)).length+1) (((L0++Cg z (G.take i)).map Fd.cells).flatten++(EV.agg (Fd.mk z i g).cells).cells):=r7.frame fun _=>p79.get _ l7 (by show ¬ h6.next=sc;omega)
   have notq:∀ j,F j->¬ (0<(L0++Cg z (G.take i)).length/\j=q):=fun j fj y=>nq y.1 (y.2 ▸ fj)
   refine ih (i+1) h9 h6.next (by omega) (by omega) (N9.less fun j hj=>?_) hb9 ⟨⟨_,y0,by rw[eL];exact gs9,?_⟩,fun _=>by omega⟩ ?_ ?_ (fun _ fj=>by have:=M.lt _ (.inl fj);omega) ?_
   ·rcases hj with hj|⟨_,hj⟩
    ·exact .inl (.inl (.inl hj))
    ·exact .inr ⟨by omega,by omega⟩
   ·have e1:((L0++Cg z (G.take i))++[Fd.mk z i g]).length=(L0++Cg z (G.take i)).length+1:=by simp only[List.length_append,List.length_cons,List.length_nil]
    have e2:(((L0++Cg z (G.take i))++[Fd.mk z i g]).map Fd.cells).flatten=((L0++Cg z (G.take i)).map Fd.cells).flatten++(EV.agg (Fd.mk z i g).cells).cells:=by
     rw[List.map_append,List.flatten_append,show ([Fd.mk z i g].map Fd.cells).flatten=(Fd.mk z i g).cells from List.append_nil _];rfl
    rw[eF,e1,e2]
    exact r9
   ·refine r3.frame fun y=>?_
    have f:=f3 y
    have l:=hb _ _ (r3.block y)
    rw[p79.get _ (Nat.lt_of_lt_of_le l (Nat.le_trans hln c67.next)) n3,c67.get _ (Nat.lt_of_lt_of_le l hln) (notq _ f),x26.get _ l id]
   ·refine r4.frame fun y=>?_
    have f:=f4 y
    have l:=hb _ _ (r4.block y)
    rw[p79.get _ (Nat.lt_of_lt_of_le l (Nat.le_trans hln c67.next)) n4,c67.get _ (Nat.lt_of_lt_of_le l hln) (notq _ f),x26.get _ l id]
   ·exact((kf.trans (Ext.to x26)).trans (c67.mono fun j hj=>.inr fun fj=>notq j fj hj)).trans (p79.mono fun j hj=>.inl hj)
  ·have:i=G.length:=by omega
   subst this
   simp only[show decide ((G.length:Int)<(G.length:Int))=false by simp,Ab]
   rw[List.take_length]at M sa nq
   exact hq h q M hb sa nq kf
theorem Ayl.rec {G:List Fr}{z:Int}(r:Ayl G z):Awv (G.map fun f=>Dl (Ii f)) z:=by
 intro i x hx
 rw[List.getElem?_map]at hx
 cases hg:G[i]? with
 | none=>rw[hg]at hx;cases hx
 | some f=>
  rw[hg]at hx
  cases hx
  obtain⟨a,b,c,d,e⟩:=r i f hg
  exact⟨f,rfl,a,b,c,d,e⟩
theorem Axj(A:Aq disp)(hK:10000<K){d:Nat}(hd:13<=d){m sc:Nat}{S:Mi}{F:Nat->Prop}{z:Int}{v3 v4:EV}{q3 q4:Nat}{G:List Fr}(hw:Ayl G z)(hn:G.length<=200)(f3:0<G.length->F q3)(f4:0<G.length->F q4)(fs:F sc)(n3:q3 ≠ sc)(n4:q4 ≠ sc){L0:List Fd}{last0:Int}(hL0:L0.length<=30000){h:Aa}{q:Nat}(M:Fc h m S (fun j=>F j\/(0<L0.length/\j=q)))(hb:HB h)(sa:Ame h sc q L0 last0)(r3:Bu h v3 q3 103 64 G.length (G.map fun f=>Dl (Ii f)).flatten)(r4:Bu h v4 q4 4 1 G.length (List.replicate G.length (.bool true)))(nq:0<L0.length->¬ F q):
 Ok (Ad TT disp K d false 94 [.ptr sc 0,.ptr m 0,I z,v3,v4] h) fun _ h'=>∃ q',Fc h' m S (fun j=>F j\/(0<(L0++Cg z G).length/\j=q'))/\Ame h' sc q' (L0++Cg z G) (Qn G last0)/\A9 (fun j=>j=sc\/¬ F j) h h'/\HB h'/\(0<(L0++Cg z G).length->¬ F q'):=by
 obtain⟨e,rfl⟩:∃ k,d=k+1:=⟨d-1,by omega⟩
 rw[Aku A (by omega)]
 simp only[Ahq]
 rw[r3.E9]
 have e0:L0++Cg z (G.take 0)=L0:=List.append_nil _
 refine Aru (K:=K) A hK (d:=e) (by omega) hw hn f3 f4 fs n3 n4 (h0:=h) (L0:=L0) (last0:=last0) hL0 ?_ K 0 h q (by omega) (by omega) (by rw[e0];exact M) hb (by rw[e0];exact sa) r3 r4 (by rw[e0];exact nq) (A9.refl _)
 intro h2 q2 M2 hb2 sa2 nq2 c2
 have r32:=r3.frame (h':=h2) fun y=>c2.get _ (hb _ _ (r3.block y)) fun w=>w.elim n3 fun w=>w (f3 y)
 have r42:=r4.frame (h':=h2) fun y=>c2.get _ (hb _ _ (r4.block y)) fun w=>w.elim n4 fun w=>w (f4 y)
 simp only[O3]
 obtain⟨_,D,p,bl,ql,np,qq,c,G',a⟩:=M2.s
 refine(Adl (K:=K) a.J4 hb2).Al ?_
 rintro _ h3 ⟨rfl,x3⟩
 have hb3:=x3.hb hb2
 have r33:=r32.frame (h':=h3) fun y=>x3.get _ (hb2 _ _ (r32.block y)) id
 have r43:=r42.frame (h':=h3) fun y=>x3.get _ (hb2 _ _ (r42.block y)) id
 rw[A8x (by omega) r43 hn,Bg]
 have hlx:(G.map fun f=>Dl (Ii f)).length=G.length:=List.length_map _
 refine(A6l (K:=K) A hK (d:=e) (by omega) hw.rec (by rw[hlx];exact hn) (by rw[hlx];exact r33) hb3).Al ?_
 rintro _ h4 ⟨a1,a2,a3,a4,rfl,x4,hb4⟩
 simp only[Ab]
 refine Ok.stW (Ag _ _) rfl rfl ?_
 have x5:Ext h4 ((h4.new (.cells [.int .i64 0,.int .i64 0,.int .i64 0,.Bi] 60)).put h4.next (.cells [a1,a2,a3,a4] 60)):=(A9.new h4 _:Ext _ _).A5 (.inr (Nat.le_refl _)) (Nat.lt_succ_self _) _
 generalize (h4.new (.cells [.int .i64 0,.int .i64 0,.int .i64 0,.Bi] 60)).put h4.next (.cells [a1,a2,a3,a4] 60)=h5 at x5 ⊢
 have x25:Ext h2 h5:=(x3.trans x4).trans x5
 simp only[I,Ai,show decide ((10:Int)=0)=false from rfl,Ab]
 obtain⟨⟨s2,y2,gs2,rs2⟩,ne2⟩:=sa2
 exact .ret ⟨q2,(M2.ext hb2 x25).less fun j (hj:F j\/(0<(L0++Cg z G).length/\j=q2))=>Or.inl hj,⟨⟨s2,y2,x25.at hb2 gs2,rs2.frame fun y=>x25.get _ (hb2 _ _ (rs2.block y)) id⟩,ne2⟩,c2.trans (Ext.to x25),x25.hb hb2,nq2⟩
end Go.Ev

namespace Go.Ev
open Go.Proofs
set_option maxRecDepth 100000
variable {K:Nat}{disp:Nat->Option FT}
def Cj(C:Nat->List Fr):Nat->List Fd
 | 0=>[]
 | k+1=>Cj C k++Cg k (C k)
def P7(C:Nat->List Fr):Nat->Int
 | 0=>0
 | k+1=>Qn (C k) (P7 C k)
structure Kept(S:Mi)(C:Nat->List Fr):Prop where
 up:Up S
 n:S.dr.dv.n=(S.g.D*S.g.Z).toNat
 st:∀ z:Nat,z<S.dr.dv.n->¬ (S.dr.dv.zs z).st=4
 l:∀ z:Nat,z<S.dr.dv.n->(S.dr.dv.zs z).l=(C z).map fun f=>Dl (Ii f)
 rcs:∀ z:Nat,z<S.dr.dv.n->Ayl (C z) z
 len:∀ z:Nat,z<S.dr.dv.n->(C z).length<=64
theorem Kept.at {S:Mi}{C:Nat->List Fr}(k:Kept S C)(c:Int):Kept (S.at c) C:=⟨k.up.at c,k.n,k.st,k.l,k.rcs,k.len⟩
theorem Ajq {C:Nat->List Fr}{n:Nat}(h:∀ z,z<n->(C z).length<=64):∀ k,k<=n->(Cj C k).length<=64*k
 | 0,_=>Nat.le_refl _
 | k+1,hk=>by
  show (Cj C k++Cg k (C k)).length<=_
  rw[List.length_append]
  have:=Ajq h k (by omega)
  have:=h k (by omega)
  unfold Cg
  rw[List.length_map];omega
theorem Bde:TT.size 112=some 3/\TT.agg 112=some true:=⟨by kernel_rfl,by kernel_rfl⟩
theorem A4u(A:Aq disp)(hK:10000<K){d:Nat}(hd:15<=d){m sc v2:Nat}{S:Mi}{C:Nat->List Fr}{F:Nat->Prop}(kp:Kept S C)(hN:S.dr.dv.n<=64)(fs:F sc)(f2:F v2)(ns:v2 ≠ sc){h0:Aa}:∀ (f i:Nat) (h:Aa) (c:Int) (q:Nat),S.dr.dv.n-i<f->i<=S.dr.dv.n->Fc h m (S.at c) (fun j=>F j\/(0<(Cj C i).length/\j=q))->HB h->Ame h sc q (Cj C i) (P7 C i)->h.get v2=some (.cells [.Af,.Af,.int .i64 0] 112)->(0<(Cj C i).length->¬ F q)->A9 (fun j=>j=sc\/¬ F j) h0 h ->
 Ok (Lv (Ad TT disp K d false) (Ad TT disp K d true) K f (.ptr m 0) (.ptr v2 0) (.ptr sc 0) (I S.dr.dv.n) (I i) h) fun v h'=>∃ c q s y,v=.tuple [.agg [s,y,I (P7 C S.dr.dv.n)],I 0]/\Fc h' m (S.at c) (fun j=>F j\/(0<(Cj C S.dr.dv.n).length/\j=q))/\Bu h' s q 122 51 (Cj C S.dr.dv.n).length ((Cj C S.dr.dv.n).map Fd.cells).flatten/\A9 (fun j=>j=sc\/j=v2\/¬ F j) h0 h'/\HB h':=by
 intro f
 induction f with
 | zero=>intro i h c q hf;omega
 | succ f ih=>
  intro i h c q hf hi M hb sa g2 nq kf
  rw[Lv]
  simp only[I,Ai]
  by_cases hlt:i<S.dr.dv.n
  ·have e3:decide ((i:Int)<(S.dr.dv.n:Int))=true:=by simp;omega
   simp only[e3,Ab,Aml]
   have hz:(S.at c).dr.dv.has (i:Int)=true:=by
    show S.dr.dv.has (i:Int)=true
    unfold Dv.has;exact decide_eq_true ⟨by omega,by omega⟩
   have rd:=Av8 (K:=K) A hK (d:=d) hd M hb (kp.up.at c) hz (kp.st i hlt) (l:=(C i).map fun f=>Dl (Ii f)) (kp.l i hlt) (by rw[List.length_map];have:=kp.len i hlt;omega)
   simp only[I]at rd
   refine rd.Al ?_
   rintro _ h2 ⟨v4,v5,q1,q2,c2,rfl,r4,r5,M2,k2,hb2,hq⟩
   rw[List.length_map]at r4 r5 M2 hq
   obtain⟨⟨s0,y0,gs,rs⟩,ne⟩:=sa
   have lsc:=hb _ _ gs
   have gs2:=k2.at hb gs (.inl fs)
   have sa2:Ame h2 sc q (Cj C i) (P7 C i):=⟨⟨s0,y0,gs2,rs.frame fun w=>k2.get _ (hb _ _ (rs.block w)) fun y=>y (.inr ⟨w,rfl⟩)⟩,ne⟩
   obtain⟨p1,p2,r4,r5,M2,np1,np2,hp⟩:∃ p1 p2,Bu h2 v4 p1 103 64 (C i).length ((C i).map fun f=>Dl (Ii f)).flatten/\Bu h2 v5 p2 4 1 (C i).length (List.replicate (C i).length (.bool true))/\Fc h2 m (S.at c2) (fun j=>(F j\/(0<(C i).length/\(j=p1\/j=p2)))\/(0<(Cj C i).length/\j=q))/\p1 ≠ sc/\p2 ≠ sc/\(0<(C i).length->h.next<=p1/\h.next<=p2):=by
    have M2':Fc h2 m (S.at c2) (fun j=>(F j\/(0<(C i).length/\(j=q1\/j=q2)))\/(0<(Cj C i).length/\j=q)):=M2.less fun j hj=>by
     rcases hj with (hj|hj)|hj
     ·exact .inl (.inl hj)
     ·exact .inr hj
     ·exact .inl (.inr hj)
    by_cases h0:0<(C i).length
    ·obtain⟨a,b,_⟩:=hq h0
     exact⟨q1,q2,r4,r5,M2',by omega,by omega,fun _=>⟨a,b⟩⟩
    ·have e0:(C i).length=0:=by omega
     refine⟨sc+1,sc+1,?_,?_,M2'.less fun j hj=>?_,by omega,by omega,fun y=>absurd y h0⟩
     ·rcases r4 with w|w
      ·exact .inl w
      ·exact absurd w.1 h0
     ·rcases r5 with w|w
      ·exact .inl w
      ·exact absurd w.1 h0
     ·rcases hj with (hj|hj)|hj
      ·exact .inl (.inl hj)
      ·exact absurd hj.1 h0
      ·exact .inr hj
   simp only[Ab,Ai,not_true_eq_false,decide_false,Am8]
   have hfl:=Ajq kp.len i (by omega)
   have ad:=Axj (K:=K) A hK (d:=d) (by omega) (F:=fun j=>F j\/(0<(C i).length/\(j=p1\/j=p2))) (kp.rcs i hlt) (by have:=kp.len i hlt;omega) (fun y=>.inr ⟨y,.inl rfl⟩) (fun y=>.inr ⟨y,.inr rfl⟩) (.inl fs) np1 np2 (L0:=Cj C i) (last0:=P7 C i) (by omega) M2 hb2 sa2 r4 r5 (fun w y=>by
    rcases y with y|⟨y0,y|y⟩
    ·exact nq w y
    ·have:=hb _ _ (rs.block w)
     have:=(hp y0).1
     omega
    ·have:=hb _ _ (rs.block w)
     have:=(hp y0).2
     omega)
   simp only[I]at ad
   refine ad.Al ?_
   rintro _ h3 ⟨q',M3,sa3,c3,hb3,nq3⟩
   simp only[Am5,Ai]
   rw[C8 (by omega) (by omega),show ((i:Nat):Int)+1=((i+1:Nat):Int) by omega]
   have l2:=hb _ _ g2
   have g22:=k2.at hb g2 (.inl f2)
   refine ih (i+1) h3 c2 q' (by omega) (by omega) (M3.less fun j hj=>hj.imp .inl id) hb3 sa3 (c3.at hb2 g22 fun w=>w.elim (fun w=>ns w) fun w=>w (.inl f2)) ?_ ((kf.trans (k2.mono fun j hj=>.inr fun y=>hj (.inl y))).trans (c3.mono fun j hj=>hj.imp id fun w y=>w (.inl y)))
   exact fun w y=>nq3 w (.inl y)
  ·have:i=S.dr.dv.n:=by omega
   subst this
   simp only[show decide ((S.dr.dv.n:Int)<(S.dr.dv.n:Int))=false by simp,Ab,Afx]
   obtain⟨⟨s,y,gs,rs⟩,ne⟩:=sa
   rw[Fy gs rfl,A3 (n:=3) rfl]
   have l2:=hb _ _ g2
   try simp only[Ab]
   refine Ok.stW g2 rfl rfl ?_
   rw[Hs (Aj _ _ _) Bde.1 Bde.2 rfl]
   have p:A9 (fun j=>j=v2) h (h.put v2 (.cells [s,y,I (P7 C S.dr.dv.n)] 112)):=(A9.refl (S:=fun j=>j=v2) h).A5 (.inl rfl) l2 _
   refine .ret ⟨c,q,s,y,rfl,M.Arx p fun j hj _=>.inl (by
    have hj:j=v2:=hj
    subst hj;exact f2),rs.frame fun w=>As _ fun e=>nq w (e ▸ f2),(kf.mono fun j hj=>hj.imp id .inr).trans (p.mono fun j hj=>.inr (.inl hj)),hb.put l2 _⟩
theorem Axl(A:Aq disp)(hK:10000<K){d:Nat}(hd:16<=d){m:Nat}{S:Mi}{C:Nat->List Fr}{F:Nat->Prop}(kp:Kept S C)(hN:S.dr.dv.n<=64){h:Aa}(M:Fc h m S F)(hb:HB h):
 Ok (Ad TT disp K d false 46 [.ptr m 0] h) fun v h'=>∃ c q s y,v=.tuple [.agg [s,y,I (P7 C S.dr.dv.n)],I 0]/\Fc h' m (S.at c) (fun j=>F j\/(0<(Cj C S.dr.dv.n).length/\j=q))/\Bu h' s q 122 51 (Cj C S.dr.dv.n).length ((Cj C S.dr.dv.n).map Fd.cells).flatten/\Kf F h h'/\HB h':=by
 obtain⟨e,rfl⟩:∃ k,d=k+1:=⟨d-1,by omega⟩
 have sm:=M.wf.sm
 have:=sm.d0;have:=sm.d1;have:=sm.z0;have:=sm.z1
 obtain⟨m0,m1⟩:=X2 (a:=S.g.D) (b:=S.g.Z) (A:=8) (B:=64) (by omega) (by omega) (by omega) (by omega)
 rw[At7 A (by omega)]
 simp only[Axf,Ab]
 have x1:Ext h ((h.new (.cells [.Af,.Af,.int .i64 0] 112)).new (.cells [.Af,.Af,.int .i64 0] 112)):=(A9.new _ _).Fp _
 have g1:((h.new (.cells [.Af,.Af,.int .i64 0] 112)).new (.cells [.Af,.Af,.int .i64 0] 112)).get h.next=some (.cells [.Af,.Af,.int .i64 0] 112):=by rw[Bd _ (Nat.lt_succ_self _)];exact Ag _ _
 have g2:((h.new (.cells [.Af,.Af,.int .i64 0] 112)).new (.cells [.Af,.Af,.int .i64 0] 112)).get (h.next+1)=some (.cells [.Af,.Af,.int .i64 0] 112):=Ag _ _
 have n1:((h.new (.cells [.Af,.Af,.int .i64 0] 112)).new (.cells [.Af,.Af,.int .i64 0] 112)).next=h.next+2:=rfl
 rw[show (h.new (C7.cells [.Af,.Af,.int .i64 0] 112)).next=h.next+1 from rfl]
 generalize (h.new (.cells [.Af,.Af,.int .i64 0] 112)).new (.cells [.Af,.Af,.int .i64 0] 112)=h1 at x1 g1 g2 n1 ⊢
 have hb1:=x1.hb hb
 have M1:=M.ext hb x1
 refine(Ays (K:=K) M1 hb1).Al ?_
 rintro _ h2 ⟨rfl,x2⟩
 have hb2:=x2.hb hb1
 rw[Y9 sm,Bg]
 have x3:Ext h1 (h2.new (.cells (gL S.g) 23)):=x2.Fp _
 generalize h2.new (.cells (gL S.g) 23)=h3 at x3 ⊢
 have hb3:=x3.hb hb1
 have x13:Ext h h3:=x1.trans x3
 have M3:Fc h3 m S (fun j=>F j\/j=h.next\/j=h.next+1):=(M.ext hb x13).less fun j hj=>by
  have:=x3.next
  rcases hj with hj|hj|hj
  ·exact .inl hj
  ·exact .inr ⟨by omega,by omega⟩
  ·exact .inr ⟨by omega,by omega⟩
 have hn:I (S.g.D*S.g.Z)=I (S.dr.dv.n:Nat):=by rw[kp.n];unfold I;congr 1;omega
 rw[hn]
 refine(A4u (K:=K) A hK (d:=e) (by omega) (F:=fun j=>F j\/j=h.next\/j=h.next+1) kp hN (sc:=h.next+1) (v2:=h.next) (.inr (.inr rfl)) (.inr (.inl rfl)) (by omega) (h0:=h3) K 0 h3 S.dr.dv.cnt 0 (by omega) (by omega) (M3.less fun j hj=>hj.elim id fun y=>absurd y.1 (Nat.lt_irrefl _)) hb3 ⟨⟨.Af,.Af,x3.at hb1 g2,Bu.nil _ _ _ _⟩,fun y=>absurd y (Nat.lt_irrefl _)⟩ (x3.at hb1 g1) (fun y=>absurd y (Nat.lt_irrefl _)) (A9.refl _)).mono ?_
 rintro _ h4 ⟨c,q,s,y,rfl,M4,r4,c4,hb4⟩
 refine⟨c,q,s,y,rfl,M4.less fun j hj=>hj.imp .inl id,r4,(Ext.kf x13).trans (c4.mono fun j hj y=>?_),hb4⟩
 have:=M.lt j y
 rcases hj with hj|hj|hj
 ·omega
 ·omega
 ·exact hj (.inl y)
end Go.Ev

namespace Go.Ev
open Go.Proofs
set_option maxRecDepth 100000
variable {K:Nat}{disp:Nat->Option FT}
def Fd.is(x:Fd)(ep sq:Int):Bool:=decide (x.fr.Ax=ep) && decide (x.fr.seq=sq)
def X3(ep sq:Int)(L:List Fd):Nat:=(L.filter fun x=>x.is ep sq).length
theorem Bgp {L:List Fd}(hw:∀ x ∈ L,x.fr.Wf){i:Nat}{x:Fd}(hx:L[i]? = some x):Nf (L.map Fd.cells).flatten (i*51) 51=some x.cells:=
 Aby (n:=51) _ _ _ (fun y hy=>by obtain⟨x,hx,rfl⟩:=List.mem_map.1 hy;exact Fd.len (hw x hx)) (by rw[List.getElem?_map,hx];rfl)
theorem Be4(ep sq:Int)(L:List Fd):X3 ep sq L<=L.length:=List.length_filter_le ..
theorem A77 {ep sq:Int}{L:List Fd}{i:Nat}{x:Fd}(hx:L[i]? = some x):X3 ep sq (L.take (i+1))=X3 ep sq (L.take i)+(if x.is ep sq=true then 1 else 0):=by
 obtain⟨hi,rfl⟩:=List.getElem?_eq_some_iff.1 hx
 unfold X3
 rw[List.take_succ_eq_append_getElem hi,List.filter_append,List.length_append]
 congr 1
 cases h:(L[i]).is ep sq with
 | true=>simp[h]
 | false=>simp[h]
theorem Bbv {c r:Ae}{s:EV}{q l0 b2 b3:Nat}{ep sq:Int}{L:List Fd}(hw:∀ x ∈ L,x.fr.Wf)(hn:L.length<=30000){St:Nat->Aa->Prop}
 (hSt:∀ n h,St n h->HB h/\h.get b2=some (.cells [I ep] 3)/\h.get b3=some (.cells [I sq] 3)/\Bu h s q 122 51 L.length (L.map Fd.cells).flatten)
 (hExt:∀ n h h',St n h->Ext h h'->St n h')
 (hround:∀ n h x,n<=30000->St n h->x ∈ L->x.is ep sq=true->Ok (U3 c r (.Xg l0) [.agg x.cells] h) fun v h'=>v=.bool true/\St (n+1) h') :
 ∀ (f i:Nat) (h:Aa),L.length-i<f->i<=L.length->St (X3 ep sq (L.take i)) h ->
  Ok (D9 c r K f (.Xg l0) (.ptr b2 0) (.ptr b3 0) s (I L.length) (I i) h) fun _ h'=>St (X3 ep sq L) h':=by
 intro f
 induction f with
 | zero=>intro i h hf;omega
 | succ f ih=>
  intro i h hf hi st
  obtain⟨hb,g2,g3,row⟩:=hSt _ _ st
  rw[D9]
  simp only[I,Ai]
  by_cases hlt:i<L.length
  ·have e3:decide ((i:Int)<(L.length:Int))=true:=by simp;omega
   have hx:=List.getElem?_eq_getElem hlt
   have hm:=List.getElem_mem hlt
   have cs:=A77 (ep:=ep) (sq:=sq) hx
   simp only[e3,Ab,Zy]
   rw[row.ix hlt,Ij (row.block (by omega)) rfl (Bgp hw hx)]
   have fl:=Fd.len (hw _ hm)
   generalize L[i]=x at hx hm cs fl
   try simp only[Ab]
   refine Ok.stW (Ag _ _) (by simp) fl ?_
   have x2:Ext h ((h.new (.cells (List.replicate 7 (EV.int .i64 0)++List.replicate 44 (.int .u8 0)) 122)).put h.next (.cells x.cells 122)):=(A9.new h _:Ext _ _).A5 (.inr (Nat.le_refl _)) (Nat.lt_succ_self _) _
   have gx:((h.new (.cells (List.replicate 7 (EV.int .i64 0)++List.replicate 44 (.int .u8 0)) 122)).put h.next (.cells x.cells 122)).get h.next=some (.cells x.cells 122):=Aj _ _ _
   generalize (h.new (.cells (List.replicate 7 (EV.int .i64 0)++List.replicate 44 (.int .u8 0)) 122)).put h.next (.cells x.cells 122)=h2 at x2 gx ⊢
   have st2:=hExt _ _ _ st x2
   obtain⟨hb2,g22,g32,row2⟩:=hSt _ _ st2
   rw[C3 gx rfl (v:=I x.fr.Ax) rfl,C3 g22 rfl (v:=I ep) rfl]
   have nx:∀ h3,St (X3 ep sq (L.take (i+1))) h3->Ok (No c r K (D9 c r K f) (.Xg l0) (.ptr b2 0) (.ptr b3 0) s (.int .i64 (L.length:Int)) (.int .i64 (i:Int)) h3) fun _ h'=>St (X3 ep sq L) h':=by
    intro h3 st3
    simp only[No,Ai]
    rw[C8 (by omega) (by omega),show ((i:Nat):Int)+1=((i+1:Nat):Int) by omega]
    exact ih (i+1) h3 (by omega) (by omega) st3
   have skip:x.is ep sq=false->Ok (No c r K (D9 c r K f) (.Xg l0) (.ptr b2 0) (.ptr b3 0) s (.int .i64 (L.length:Int)) (.int .i64 (i:Int)) h2) fun _ h'=>St (X3 ep sq L) h':=fun h0=>by
    rw[h0]at cs
    exact nx h2 (by rw[cs];exact st2)
   simp only[I,Ai]
   by_cases he:x.fr.Ax=ep
   ·simp only[he,decide_true,Ab,Ai]
    rw[C3 gx rfl (v:=I x.fr.seq) rfl,C3 g32 rfl (v:=I sq) rfl]
    simp only[I,Ai]
    by_cases hs:x.fr.seq=sq
    ·have his:x.is ep sq=true:=by unfold Fd.is;rw[decide_eq_true he,decide_eq_true hs];rfl
     simp only[hs,decide_true,Ab,Ai,Kl]
     rw[Ij gx rfl (A3 fl)]
     refine(hround _ _ x (by have:=Be4 ep sq (L.take i);rw[List.length_take]at this;omega) st2 hm his).Al ?_
     rintro _ h3 ⟨rfl,st3⟩
     simp only[Ab,Kh]
     rw[his]at cs
     exact nx h3 (by rw[cs];exact st3)
    ·have his:x.is ep sq=false:=by unfold Fd.is;rw[decide_eq_false hs,Bool.and_false]
     simp only[hs,decide_false,Ab,Ai,Kl,Kh]
     exact skip his
   ·have his:x.is ep sq=false:=by unfold Fd.is;rw[decide_eq_false he,Bool.false_and]
    simp only[he,decide_false,Ab,Ai,Kl,Kh]
    exact skip his
  ·have:i=L.length:=by omega
   subst this
   simp only[show decide ((L.length:Int)<(L.length:Int))=false by simp,Ab]
   rw[List.take_length]at st
   exact .ret st
end Go.Ev

namespace Go.Ev
open Go.Proofs
set_option maxRecDepth 100000
variable {K:Nat}{disp:Nat->Option FT}
theorem At3(hK:2000<K)(g:Gm){h:Aa}(hb:HB h):Ok (Jf K (gV g) h) fun v h'=>Ext h h'/\HB h'/\∃ l:List EV,l.length=20 /\
 if rtB g=true/\g.D*g.Z<=64 then ∃ m,v=.tuple [.ptr m 0,.agg l,.bool true]/\Fc h' m (Mi.new g) (fun i=>i<h.next) else v=.tuple [.Bi,.agg l,.bool false]:=by
 have hz : [EV.Af]++List.replicate 3 (EV.int .i64 0)++[EV.bool false]++List.replicate 2 EV.Af++List.replicate 8 (EV.int .i64 0)++List.replicate 2 EV.Af++List.replicate 3 (EV.int .i64 0)=z20:=rfl
 have zl:z20.length=20:=rfl
 simp only[Jf,gV,Ab,hz]
 rw[show (h.new (.cells (gL g) 23)).next=h.next+1 from rfl]
 have x1:Ext h ((h.new (.cells (gL g) 23)).new (.cells z20 42)):=(A9.new _ _).Fp _
 have g1:((h.new (.cells (gL g) 23)).new (.cells z20 42)).get h.next=some (.cells (gL g) 23):=by
  rw[Bd _ (Nat.lt_succ_self _)];exact Ag _ _
 have g3:((h.new (.cells (gL g) 23)).new (.cells z20 42)).get (h.next+1)=some (.cells z20 42):=Ag _ _
 have n1:((h.new (.cells (gL g) 23)).new (.cells z20 42)).next=h.next+2:=rfl
 generalize (h.new (.cells (gL g) 23)).new (.cells z20 42)=h1 at x1 g1 g3 n1 ⊢
 have hb1:=x1.hb hb
 rw[Fy g1 rfl,A3 (n:=6) rfl]
 try simp only[Ab]
 refine Ok.st (gL g) (Ag _ _) rfl rfl (Cb rfl) ?_
 have x2:Ext h1 ((h1.new (.cells [EV.int .i64 0,.int .i64 0,.int .i64 0,.int .i64 0,.int .i64 0,.int .i64 0] 37)).put h1.next (.cells (gL g) 37)):=(A9.new h1 _:Ext _ _).A5 (.inr (Nat.le_refl _)) (Nat.lt_succ_self _) _
 have g5:((h1.new (.cells [EV.int .i64 0,.int .i64 0,.int .i64 0,.int .i64 0,.int .i64 0,.int .i64 0] 37)).put h1.next (.cells (gL g) 37)).get h1.next=some (.cells (gL g) 37):=Aj _ _ _
 generalize (h1.new (.cells [EV.int .i64 0,.int .i64 0,.int .i64 0,.int .i64 0,.int .i64 0,.int .i64 0] 37)).put h1.next (.cells (gL g) 37)=h2 at x2 g5 ⊢
 have hb2:=x2.hb hb1
 rw[Fy g5 rfl,A3 (n:=6) rfl]
 try simp only[Ab]
 rw[show EV.agg (gL g)=gV g from rfl]
 refine(A4t g (by omega) h2).Al ?_
 rintro _ h3 ⟨rfl,x3⟩
 have hb3:=x3.hb hb2
 have x03:Ext h h3:=(x1.trans x2).trans x3
 have x13:Ext h1 h3:=x2.trans x3
 have no:∀ h4,Ext h3 h4->¬ (rtB g=true/\g.D*g.Z<=64)->Ok (B7 (Dj [(0,7),(7,6),(13,3),(16,1),(17,1),(18,1),(19,1)]) z20 [] fun v22=>Dw 20 (.ptr (h.next+1) 0) v22 h4 fun h=>Ct TT [.v .Bi,.c (.ptr (h1.next-1) 0) 42,.v (.bool false)] h) fun v h'=>Ext h h'/\HB h'/\∃ l:List EV,l.length=20 /\
  if rtB g=true/\g.D*g.Z<=64 then ∃ m,v=.tuple [.ptr m 0,.agg l,.bool true]/\Fc h' m (Mi.new g) (fun i=>i<h.next) else v=.tuple [.Bi,.agg l,.bool false]:=by
  intro h4 x4 hn
  have hb4:=x4.hb hb3
  have g34:=x4.at hb3 (x13.at hb1 g3)
  have l3:=hb4 _ _ g34
  rw[B6 (l:=z20) rfl]
  refine Ok.st z20 g34 rfl rfl (Cb rfl) ?_
  rw[show h1.next-1=h.next+1 by omega,Aws (Aj _ _ _) A3p.1 A3p.2 rfl]
  refine .ret ⟨(x03.trans x4).A5 (.inr (by omega)) l3 _,hb4.put l3 _,z20,rfl,?_⟩
  rw[if_neg hn]
 rw[show h1.next-1=h.next+1 by omega]at no
 cases hr:rtB g with
 | false=>
  simp only[Ab,Ai,F5,hz]
  have:=no h3 (A9.refl _) (by rw[hr];simp)
  rw[hr]at this
  exact this
 | true=>
  have s:=Al9 hr
  have:=s.d0;have:=s.d1;have:=s.z0;have:=s.z1;have:=s.s0;have:=s.s1;have:=s.o0;have:=s.o1
  obtain⟨m0,m1⟩:=X2 (a:=g.D) (b:=g.Z) (A:=8) (B:=64) (by omega) (by omega) (by omega) (by omega)
  have m2:3<=g.D*g.Z:=by
   have:3*1<=g.D*g.Z:=Int.mul_le_mul (by omega) (by omega) (by omega) (by omega)
   omega
  have g13:=x13.at hb1 g1
  simp only[Ab,Ai,Ck g13 rfl,gL,I]
  rw[C8 (by omega) (by omega)]
  by_cases h64:64<g.D*g.Z
  ·have hn:¬ (rtB g=true/\g.D*g.Z<=64):=fun y=>by omega
   have:=no h3 (A9.refl _) hn
   rw[hr]at this
   simp only[h64,decide_true,Ab,F5,hz]
   simpa using this
  ·have hy:rtB g=true/\g.D*g.Z<=64:=⟨hr,by omega⟩
   simp only[h64,decide_false,Ab,F5,O8,Ck g13 rfl,gL,I,Ai]
   rw[C8 (by omega) (by omega)]
   have hd:Afw (g.D*g.Z) g.S g.O=true:=by
    unfold Afw
    rw[Ie.2 ⟨by omega,by omega⟩,Ie.2 ⟨by omega,by omega⟩,Ie.2 ⟨by omega,by omega⟩];rfl
   refine(At1 (K:=K) hd (by omega) hb3).Al ?_
   rintro _ h4 ⟨D,V,M,zl',z,rfl,x4,hb4,dr,nd⟩
   have g14:=x4.at hb3 g13
   have g34:=x4.at hb3 (x13.at hb1 g3)
   have g54:=x4.at hb3 (x3.at hb2 g5)
   simp only[Ab,I,Ai,not_true_eq_false,decide_false,Pf,Bz]
   have l14:=hb4 _ _ g14
   rw[A4 l14 (by kernel_rfl),Fy g14 rfl,A3 (n:=6) rfl]
   try simp only[Ab,Bz]
   rw[Xl (v:=Qv) (by kernel_rfl) (by kernel_rfl) rfl]
   have dr':Zl h4.lift D V M zl' (g.D*g.Z).toNat z (fun _=>0) g.S g.O 0 false .Af .Af [] (fun _=>Zn.empty):=dr.ext fun i o g=>by rw[Di];exact g
   refine Ok.Cs (by kernel_rfl) (by kernel_rfl) (Arh (K:=K) (g:=g) (by omega) (F0 hb4) dr') (fun _ _ p=>p.1) ?_
   rintro v h5' h5 ⟨_,hb5',hv⟩ sm x5
   have hb5:=x5.hb hb4
   rw[if_pos ⟨hr,by omega,rfl⟩]at hv
   obtain⟨m,p,bl,ql,q,c,rfl,MA,PA,nm⟩:=hv
   have k5:∀ i o,h5'.get i=some o->h5.get i=some o:=fun i o g=>by rw[sm.get];exact g
   have MA:=MA.ext k5
   have PA:=PA.ext k5
   have M5:=Bca s (h0:=h3) hb5 (dr.ext fun i o g=>x5.at hb4 g) nd MA PA (by
    have t2:=x4.next
    have t3:h4.lift.next=h4.next:=rfl
    exact⟨⟨by omega,by omega⟩,by omega,by omega,fun d hd=>by have:=nm.2.2.2 d hd;omega⟩) (by have:=x4.next;have:=x5.next;omega)
   have g15:=x5.at hb4 g14
   have g35:=x5.at hb4 g34
   have g55:=x5.at hb4 g54
   have l15:=hb5 _ _ g15
   have l55:=hb5 _ _ g55
   simp only[Ab,I,Ai,not_true_eq_false,decide_false]
   simp only[Ab,Ph,Bz]
   rw[A4 l15 (by kernel_rfl),C3 g15 rfl (v:=I g.D) rfl]
   try simp only[Ab,Bz]
   rw[A4 l15 (by kernel_rfl),C3 g15 rfl (v:=I g.Z) rfl]
   simp only[Ab,Bz,I,Ai]
   rw[A4 l15 (by kernel_rfl),C3 g15 rfl (v:=I g.S) rfl]
   try simp only[Ab,Bz]
   rw[A4 l15 (by kernel_rfl),C3 g15 rfl (v:=I g.O) rfl]
   try simp only[Ab,Bz]
   rw[C8 (by omega) (by omega)]
   have hn:(EV.int .i64 (g.D*g.Z))=I (((g.D*g.Z).toNat:Nat):Int):=by unfold I;congr 1;omega
   rw[hn]
   refine Ok.Cs (by kernel_rfl) (by kernel_rfl) (Avc (K:=K) (n:=(g.D*g.Z).toNat) (size:=g.S) (op:=g.O) (by omega) hK (F0 hb5)) (fun _ _ p=>by obtain⟨_,_,x,_⟩:=p;exact x) ?_
   rintro _ h6' h6 ⟨sl,rfl,_,_⟩ _ x6
   have hb6:=x6.hb hb5
   rw[B6 (l:=[sl,I g.S,I g.O,I 0,.bool false,.Af,.Af]) rfl]
   have g56:=x6.at hb5 g55
   have l56:=hb6 _ _ g56
   try simp only[Ab,Bz]
   rw[A4 l55 (by kernel_rfl),Fy g56 rfl,A3 (n:=6) rfl]
   try simp only[Ab,Bz]
   refine Ok.Cs (by kernel_rfl) (by kernel_rfl) (At6 (K:=K) (s:=sl) (size:=g.S) (op:=g.O) (g:=g) (F0 hb6)) (fun _ _ p=>p.2.1) ?_
   rintro _ h7' h7 ⟨rfl,_,_⟩ _ x7
   have hb7:=x7.hb hb6
   have g37:=x7.at hb6 (x6.at hb5 g35)
   have l37:=hb7 _ _ g37
   have x57:Ext h5 h7:=x6.trans x7
   rw[O4 (by kernel_rfl)]
   refine Ok.st (Ale sl g.S g.O g) g37 rfl rfl (Cb rfl) ?_
   rw[Aws (Aj _ _ _) A3p.1 A3p.2 rfl]
   have x07:Ext h h7:=((x03.trans x4).trans x5).trans x57
   refine .ret ⟨x07.A5 (.inr (by omega)) l37 _,hb7.put l37 _,Ale sl g.S g.O g,rfl,?_⟩
   rw[if_pos (by simpa using hy.2)]
   refine⟨m,rfl,?_⟩
   have c8:A9 (fun i=>i=h.next+1) h7 (h7.put (h.next+1) (.cells (Ale sl g.S g.O g) 42)):=(A9.refl (S:=fun i=>i=h.next+1) h7).A5 (.inl rfl) l37 _
   have t3:=x13.next
   have M8:=((M5.ext hb5 x57).less fun i (hi:i<h3.next)=>Or.inl hi).Arx c8 fun i hi _=>by
    have hi:i=h.next+1:=hi
    omega
   exact M8.less fun i hi=>by omega
end Go.Ev
