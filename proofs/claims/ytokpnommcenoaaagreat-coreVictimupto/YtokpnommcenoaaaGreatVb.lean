import Derived.Test.YtokpnommcenoaaaGreatVa
import Derived.Test.YtokpnommcenoaaaGreatIn
set_option linter.all false
namespace Go.Ev
open Go.Proofs
set_option maxRecDepth 100000
variable {x:Me}{h:Ab}{D K d i m:Nat}{S:Mi}{F:Nat->Prop}{ih:EV->EV->EV->EV->EV->EV->EV->EV->Ab->R}{Q:EV->Ab->Prop}{e:Lq}{L:List Lq}{disp:Nat->Option FT}
def Bo0:EV->Nat
 | .int _ n=>n.toNat
 | _=>0
def Ak8(x:List EV):List Nat:=x.map Bo0
theorem Azn(l:List Nat):Ak8 (Bc l)=l:=by
 unfold Ak8 Bc;rw[List.map_map];exact(cY (fun a _=>rfl)).trans (List.map_id l)
theorem U8.Bp0 {x:List EV}(u:U8 x):Bc (Ak8 x)=x/\∀b∈Ak8 x,b<256:=by
 obtain⟨l,h,rfl⟩:=u;rw[Azn];exact⟨rfl,h⟩
theorem A9e(x:List EV):(Ak8 x).length=x.length:=bU ..
theorem Agn{t n:Nat}{l:List EV}{v w:EV}(a:h.get i=some (.cells l t))(hs:TT.size t=some n)(b:TT.agg t=some true)(f:l.length=n):I9 TT [.c (.ptr i 0) t,.v v,.v w] h=some (.tuple [.agg l,v,w],h):=by
 have g:Jg h i 0 n=some l:=by
  unfold Jg;rw[a];simp only;rw[<-Ag1];exact Am f
 unfold I9;simp only[Axa,hs,g,b]
noncomputable def Ayr(s:List Nat)(x:Me)(An Br:Int):Bool × List Nat:=
 if(atF s An x.off).2=0/\¬(atF s An x.off).1.kind=2/\(atF s An x.off).1.seq=x.seq/\(Uj (atF s An x.off).1).2=0/\(Uj (atF s An x.off).1).1.Br=Br/\((F4 (Uj (atF s An x.off).1).1.bytes:Nat):Int)=x.sum
 then(true,(Uj (atF s An x.off).1).1.bytes)else(false,C7)
noncomputable def Mi.Ea(S:Mi)(x:Me)(An Br:Int):Mi × List Nat × Bool × Int:=
 if(S.dr.read An x.off).2.2=0 then({ S with dr:=(S.dr.read An x.off).1 },(Ayr (Ak8 (S.dr.read An x.off).2.1) x An Br).2,(Ayr (Ak8 (S.dr.read An x.off).2.1) x An Br).1,0)else
 if(S.dr.read An x.off).2.2=34 then({ S with dr:=(S.dr.read An x.off).1 },C7,false,34)else
 if(S.dr.read An x.off).2.2=32 then((({ S with dr:=(S.dr.read An x.off).1 }:Mi).Bt An).1,C7,false,if(({ S with dr:=(S.dr.read An x.off).1 }:Mi).Bt An).2=34 then 34 else 0)else
 ({ S with dr:=(S.dr.read An x.off).1 },C7,false,0)
theorem Bjt(A:Ca disp)(hK:10000<K)(hd:19<=d)(M:Da h m S F)(hb:HB h){z:Int}(g:Tk z):
 Ok (Ag TT disp K d false 228 [.ptr m 0,I z] h) fun v h'=>v=I (if(S.Bt z).2=34 then 34 else 0)/\Da h' m (S.Bt z).1 F/\Kf F h h'/\HB h':=by
 obtain⟨e,rfl⟩:∃k,d=k+1:=⟨d-1,by omega⟩;rw[Akm A (by omega)];simp only[Afq,dr];refine(Xe A hK M hb (by omega) g).Ap ?_;rintro _ j ⟨rfl,b,f,a⟩;simp only[I,Ad,Yw];by_cases h0:(S.Bt z).2=34
 ·simp only[h0,aB,Aa,bG]
  exact .ret ⟨rfl,b,f,a⟩
 ·simp only[h0,aA,Aa,aY]
  exact .ret ⟨rfl,b,f,a⟩
theorem Ap3:TT.size 85=some 32/\TT.agg 85=some true:=⟨by kernel_rfl,by kernel_rfl⟩
theorem Aay:C7.length=32:=rfl
theorem A7m {f:Fr}(w:f.Wf):(Uj f).1.Wf:=by
 unfold Uj;split
 ·exact En.G7
 ·split
  ·exact En.G7
  ·exact Bgi w.len w.u8
theorem Bim {s:List Nat}(a:s.length=64)(hu:∀b∈s,b<256)(x:Me)(An Br:Int)(w:(atF s An x.off).1.Wf):(Ayr s x An Br).2.length=32/\∀b∈(Ayr s x An Br).2,b<256:=by
 unfold Ayr;split
 ·exact⟨(A7m w).len,(A7m w).u8⟩
 ·exact⟨rfl,fun b hb=>by rw[bZ hb];decide⟩
theorem A7f(A:Ca disp)(hK:10000<K)(hd:20<=d)(M:Da h m S F)(hb:HB h)(x:Me){An:Int}(hz:Tk An)(Br:Int):
 Ok (Ag TT disp K d false 180 [.ptr m 0,.agg x.cells,I An,I Br] h) fun v h'=>v=.tuple [.agg (Bc (S.Ea x An Br).2.1),.bool (S.Ea x An Br).2.2.1,I (S.Ea x An Br).2.2.2]/\(S.Ea x An Br).2.1.length=32/\(∀b∈(S.Ea x An Br).2.1,b<256)/\Da h' m (S.Ea x An Br).1 F/\Kf F h h'/\HB h':=by
 obtain⟨dd,rfl⟩:∃k,d=k+1:=⟨d-1,by omega⟩;rw[Alf A (by omega)];simp only[Afa,Aa];rw[show(h.new (.cells x.cells 53)).next=h.next+1 from rfl,Gv];have x1:Ext h ((h.new (.cells x.cells 53)).new (.cells (Bc C7) 85)):=(Ar.new _ _).Di _;have B:((h.new (.cells x.cells 53)).new (.cells (Bc C7) 85)).get h.next=some (.cells x.cells 53):=by
  rw[Ay _ (aE _)];exact Ac _ _
 have u:((h.new (.cells x.cells 53)).new (.cells (Bc C7) 85)).get (h.next+1)=some (.cells (Bc C7) 85):=Ac _ _;have n1:((h.new (.cells x.cells 53)).new (.cells (Bc C7) 85)).next=h.next+2:=rfl
 generalize (h.new (.cells x.cells 53)).new (.cells (Bc C7) 85)=h1 at x1 B u n1⊢;have P:=x1.hb hb;have M1:=M.ext hb x1;obtain⟨_,D,p,bl,ql,np,q,c,G,a⟩:=M1.s;have lm:=P _ _ a.Iv.Iv;have l5:=P _ _ B;have F5:Bh F h h1 h.next:=.inr ⟨aC _,by omega⟩
 have F8:Bh F h h1 (h.next+1):=.inr ⟨by omega,by omega⟩;rw[Ah lm (by kernel_rfl),a.Iv.Dc]
 try simp only[Aa,Aw]
 rw[Ah l5 (by kernel_rfl),Aj B rfl (v:=I x.off) rfl]
 try simp only[Aa,Aw]
 refine Ok.Yh (S:=G) (by kernel_rfl) (by kernel_rfl) (fun _=>by kernel_rfl) (A6d (K:=K) A (d:=dd) (by omega) (fun k hk=>A2t A (by omega) S.dr k hk) a.drv.lift (Du P) An x.off) (fun _ _ p=>p.2.2.2.1) ?_;rintro _ h2 h3 s' ⟨rfl,hlen,d2,_,bn⟩ sm c3 bo;have ad:=sm.hb bn;have bp:U8 (S.dr.read An x.off).2.1:=by
  obtain⟨V,M',qc,qh,cs,hs,ms,F',a'⟩:=d2.N8;have w:=a'.dev.wf;have wz:∀i,i<(S.dr.begin An).dv.n->((S.dr.begin An).dv.zs i).Wf (S.dr.begin An).dv.size:=by
   have e1:(S.dr.read An x.off).1.dv=(S.dr.begin An).dv.begin An:=rfl;rw[e1]at w;unfold Dv.begin at w;split at w
   ·exact w.zs
   ·exact w.zs
  show U8 (Dv.read _ An x.off).1;unfold Dv.read;split
  ·exact U8.zs
  ·rename_i bt
   obtain⟨j,rfl,hj⟩:=Dv.A4y (show(S.dr.begin An).dv.Ff An=0 by
    rcases Decidable.em ((S.dr.begin An).dv.Ff An=0)with y|y
    ·exact y
    ·exact absurd y bt)
   unfold Agl;split
   ·exact U8.zs
   ·split
    ·rename_i hc
     have:x.off.toNat<((S.dr.begin (j:Int)).dv.zs j).l.length:=by
      have:=hc.2;rw[bK]at this;omega
     rw[bK,aH this];exact(wz j hj).u8 _ (bF _)
    ·exact U8.zs
 obtain⟨M3,k3⟩:=M1.drv P a (d2.same sm) c3;have B:=k3.at P B F5;have u:=k3.at P u F8;obtain⟨hs,Y⟩:=bp.Bp0;have H:(Ak8 (S.dr.read An x.off).2.1).length=64:=by rw[A9e,hlen]
 unfold Mi.Ea;rw[<-hs];generalize hR:S.dr.read An x.off=R at M3 hs Y H⊢;obtain⟨dr,sec,X⟩:=R;simp only at M3 hs Y H⊢;rw[Azn];generalize Ak8 sec=s at hs Y H⊢;simp only[Aa,Aw];rw[Kh (by rcases bo with rfl|⟨w,rfl,_⟩<;>kernel_rfl)];have ul:(Bc s).length=64:=by rw[Bi,H]
 refine Ok.st (Bc s) (Ac _ _) rfl (by show F9 (Bc s)=64;rw[Bf,ul]) (Bm (by rw[bT];exact ul.symm)) ?_;have x4:Ext h3 ((h3.new (.cells (List.replicate 64 (EV.int .u8 0)) 30)).put h3.next (.cells (Bc s) 30)):=(Ar.new h3 _:Ext _ _).Ak (.inr (aC _)) (aE _) _;have ao:((h3.new (.cells (List.replicate 64 (EV.int .u8 0)) 30)).put h3.next (.cells (Bc s) 30)).get h3.next=some (.cells (Bc s) 30):=Ae _ _ _
 generalize (h3.new (.cells (List.replicate 64 (EV.int .u8 0)) 30)).put h3.next (.cells (Bc s) 30)=h4 at x4 ao⊢
 have o:=x4.hb ad;have B:=x4.at ad B;have u:=x4.at ad u;have M4:=(M3.ext ad x4).less fun i (T:Bh F h h1 i)=>Or.inl T
 have ae:Kf F h h4:=(x1.Arq k3).trans x4.kf;have ln:h.next+2<=h4.next:=by have:=x4.next;have:=k3.next;omega
 have sub:∀i,F i->Bh F h h1 i:=fun i T=>.inl T
 have fin:∀(l:List Nat) (ok:Bool) (X:Int) (g:Ab) (S5:Mi),l.length=32->(∀b∈l,b<256)->Da g m S5 (Bh F h h1)->Kf F h g->HB g->g.get (h.next+1)=some (.cells (Bc C7) 85) ->
  Ok (stE 32 (.ptr (h.next+1) 0) (.agg (Bc l)) g fun h'=>I9 TT [.c (.ptr (h.next+1) 0) 85,.v (.bool ok),.v (I X)] h') fun v h'=>v=.tuple [.agg (Bc l),.bool ok,I X]/\l.length=32/\(∀b∈l,b<256)/\Da h' m S5 F/\Kf F h h'/\HB h':=by
  intro l ok X g S5 hl bw M5 k5 E af;have ul:(Bc l).length=32:=by rw[Bi,hl]
  have l8:=E _ _ af;refine Ok.st (Bc l) af rfl (by show F9 (Bc l)=32;rw[Bf,ul]) (Bm (by show(Bc C7).length=(Bc l).length;rw[ul,Bi,Aay])) ?_;rw[Agn (Ae _ _ _) Ap3.1 Ap3.2 ul];have nF:¬F (h.next+1):=fun y=>by have:=M.lt _ y;omega
  have c8:Ar (fun i=>i=h.next+1) g (g.put (h.next+1) (.cells (Bc l) 85)):=(Ar.refl (S:=fun i=>i=h.next+1) g).Ak (.inl rfl) l8 _;exact .ret ⟨rfl,hl,bw,(M5.Ai3 c8 fun i T _=>T▸F8).less sub,k5.trans (c8.mono fun i T y=>nF (T▸y)),E.put l8 _⟩
 have no:∀(X:Int) (g:Ab) (S5:Mi),Da g m S5 (Bh F h h1)->Kf F h g->HB g->g.get (h.next+1)=some (.cells (Bc C7) 85) ->
  Ok (Bu (Nc 1) (List.replicate 32 (EV.int .u8 0)) [] fun v=>stE 32 (.ptr (h.next+1) 0) v g fun h'=>I9 TT [.c (.ptr (h.next+1) 0) 85,.v (.bool false),.v (I X)] h') fun v h'=>v=.tuple [.agg (Bc C7),.bool false,I X]/\C7.length=32/\(∀b∈C7,b<256)/\Da h' m S5 F/\Kf F h h'/\HB h':=fun X g S5 M5 k5 E af=>by
  rw[Gv,Az (l:=Bc C7) rfl];exact fin C7 false X g S5 rfl (fun b hb=>by rw[bZ hb];decide) M5 k5 E af
 simp only[I,Ad];by_cases h0:X=0
 ·rw[aN h0]
  simp only[h0,aB,Aa,Yq];have bx:=o _ _ ao;have bz:=o _ _ B;obtain⟨_,D,p,bl,ql,np,q,c,G,a⟩:=M4.s;have b5:=o _ _ a.Iv.Iv
  try simp only[Aw]
  rw[Ah b5 (by kernel_rfl),a.Iv.table]
  try simp only[Aa,Aw]
  rw[Ah bx (by kernel_rfl),C8 ao rfl,Am ul]
  try simp only[Aa,Aw]
  rw[Ah bz (by kernel_rfl),Aj B rfl (v:=I x.off) rfl]
  try simp only[Aa,Aw]
  refine Ok.Ds (by kernel_rfl) (by kernel_rfl) (A6k (K:=K) H Y (Du o) hK An x.off) (fun _ _ p=>p.2.2) ?_;rintro _ ec g ⟨rfl,fw,_⟩ _ x5;have gw:=Bim H Y x An Br fw;have C:Ayr s x An Br=if(atF s An x.off).2=0/\¬(atF s An x.off).1.kind=2/\(atF s An x.off).1.seq=x.seq/\(Uj (atF s An x.off).1).2=0/\(Uj (atF s An x.off).1).1.Br=Br/\((F4 (Uj (atF s An x.off).1).1.bytes:Nat):Int)=x.sum
   then(true,(Uj (atF s An x.off).1).1.bytes)else(false,C7):=rfl
  generalize Ayr s x An Br=gd at C gw⊢;generalize atF s An x.off=N8 at fw C⊢;obtain⟨f,b6⟩:=N8;simp only at fw C⊢;have E:=x5.hb o;have fl:=Fr.Bk fw;have zl:=Fr.Bk Fr.G7;simp only[Aa,Ar2,Aw];rw[Kh (by kernel_rfl)];refine Ok.st f.cells (Ac _ _) rfl (by show F9 f.cells=49;rw[Bf,fl]) (Bm (by rw[zl];exact fl.symm)) ?_;have x6:Ext g ((g.new (.cells Fr.zero.cells 247)).put g.next (.cells f.cells 247)):=(Ar.new g _:Ext _ _).Ak (.inr (aC _)) (aE _) _;have Z:((g.new (.cells Fr.zero.cells 247)).put g.next (.cells f.cells 247)).get g.next=some (.cells f.cells 247):=Ae _ _ _
  generalize (g.new (.cells Fr.zero.cells 247)).put g.next (.cells f.cells 247)=h6 at x6 Z⊢
  have U:=x6.hb E;have ag:Ext h4 h6:=x5.trans x6;have B:=ag.at o B;have u:=ag.at o u;have M6:=(M4.ext o ag).less fun i (T:Bh F h h1 i)=>Or.inl T
  have az:Kf F h h6:=ae.trans ag.kf;have stop:=no 0 h6 _ M6 az U u;have l0:f.cells[0]? = some (I f.kind):=rfl;have l4:f.cells[4]? = some (I f.seq):=rfl;simp only[I,Ad]at stop⊢;by_cases c1:b6=0
  ·by_cases c2:f.kind=2
   ·rw[aK (by rintro⟨_,y,_⟩;exact y c2)]at C;subst C
    simp only[c1,aD,aA,Aa,Cy Z rfl,l0,I,Ad,c2,aB,Jc,Jb];exact stop
   ·by_cases c3:f.seq=x.seq
    ·simp only[c1,aD,aA,Aa,Cy Z rfl,l0,I,Ad,c2,Jc,l4,Jb]
     rw[Aj B rfl (v:=I x.seq) rfl];simp only[I,Ad,c3,aD,aA,Aa,Yz];rw[C8 Z rfl,Am fl]
     try simp only[Aa]
     refine(A0o (K:=K) fw U hK).Ap ?_;rintro _ W ⟨rfl,O,x7⟩;generalize Uj f=re at O C⊢;obtain⟨e,ca⟩:=re;simp only at O C⊢;have cc:=x7.hb U;have el:=En.Bk O;have cf:=En.Bk En.G7;simp only[Aa];rw[En.Ib];refine Ok.st e.cells (Ac _ _) rfl (by show F9 e.cells=38;rw[Bf,el]) (Bm (by rw[cf];exact el.symm)) ?_;have x8:Ext W ((W.new (.cells En.zero.cells 203)).put W.next (.cells e.cells 203)):=(Ar.new W _:Ext _ _).Ak (.inr (aC _)) (aE _) _;have J:((W.new (.cells En.zero.cells 203)).put W.next (.cells e.cells 203)).get W.next=some (.cells e.cells 203):=Ae _ _ _
     generalize (W.new (.cells En.zero.cells 203)).put W.next (.cells e.cells 203)=h8 at x8 J⊢
     have t:=x8.hb cc;have ah:Ext h6 h8:=x7.trans x8;have B:=ah.at U B;have u:=ah.at U u;have M8:=(M6.ext U ah).less fun i (T:Bh F h h1 i)=>Or.inl T
     have a1:Kf F h h8:=az.trans ah.kf;have stop:=no 0 h8 _ M8 a1 t u;have cm:=t _ _ J;have ct:=t _ _ B;simp only[I,Ad]at stop⊢;by_cases c4:ca=0
     ·simp only[c4,aD,aA,Aa,Aw]
      rw[Ah cm (by kernel_rfl),Aj J rfl (v:=I e.Br) rfl];simp only[I,Ad];by_cases c5:e.Br=Br
      ·simp only[c5,aD,aA,I6,Aa,Aw]
       obtain⟨_,D,p,bl,ql,np,q,c,G,a⟩:=M8.s;have cx:=t _ _ a.Iv.Iv;rw[Ah cx (by kernel_rfl),a.Iv.table]
       try simp only[Aa,Aw]
       rw[show ∀k:EV->R,Qi 32 1 (.ptr W.next 6) none none none k=k (.slice W.next 6 32 32 false)from fun k=>rfl]
       try simp only[Aa,Aw]
       have bs:Bs h8.lift (.slice W.next 6 32 32 false) W.next 6 e.bytes:=by
        refine⟨32,false,_,e.cells,by rw[O.len],by rw[O.len];omega,by rw[By];exact J,rfl,by rw[el,O.len];exact aC _,?_⟩;unfold En.cells;rw[O.len];show(Bc e.bytes).take 32=_;rw[bP (by rw[Bi,O.len];omega)]
       refine Ok.Ds (by kernel_rfl) (by kernel_rfl) (A28 (K:=K) hK bs (Du t) O.u8 (by rw[O.len];omega)) (fun _ _ p=>p.2) ?_;rintro _ ef h9 ⟨rfl,_⟩ _ x9;have a2:=x9.hb t;have B:=x9.at t B;have u:=x9.at t u;have J:=x9.at t J;have M9:=(M8.ext t x9).less fun i (T:Bh F h h1 i)=>Or.inl T
       have a6:Kf F h h9:=a1.trans x9.kf;have stop:=no 0 h9 _ M9 a6 a2 u;have H:=Bav O.u8;simp only[Nk,Aa,Aw];rw[show Cx .i64 (Int.ofNat (F4 e.bytes))=(F4 e.bytes:Int)from Cn (by show -9223372036854775808<=((F4 e.bytes:Nat):Int);omega) (by show((F4 e.bytes:Nat):Int)<=_;omega)];rw[Ah ct (by kernel_rfl),Aj B rfl (v:=I x.sum) rfl];simp only[I,Ad]at stop⊢;by_cases c6:((F4 e.bytes:Nat):Int)=x.sum
       ·rw[aN ⟨c1,c2,c3,c4,c5,c6⟩]at C;subst C
        simp only[c6,aD,aA,G1,Aa,Y3];rw[C8 J rfl,show Mh e.cells (0+6) 32=some (Bc e.bytes)from by
         rw[Fc (by rw[el];omega)];show some ((Bc e.bytes).take 32)=_;rw[bP (by rw[Bi,O.len];omega)]]
        try simp only[Aa]
        exact fin e.bytes true 0 h9 _ O.len O.u8 M9 a6 a2 u
       ·rw[aK (by rintro⟨_,_,_,_,_,y⟩;exact c6 y)]at C;subst C
        simp only[c6,aG,aB,G1,Aa];exact stop
      ·rw[aK (by rintro⟨_,_,_,_,y,_⟩;exact c5 y)]at C;subst C
       simp only[c5,aG,aB,I6,Aa,G1];exact stop
     ·rw[aK (by rintro⟨_,_,_,y,_⟩;exact c4 y)]at C;subst C
      simp only[c4,aG,aB,I6,Aa,G1];exact stop
    ·rw[aK (by rintro⟨_,_,y,_⟩;exact c3 y)]at C;subst C
     simp only[c1,aD,aA,Aa,Cy Z rfl,l0,I,Ad,c2,Jc,l4,Jb];rw[Aj B rfl (v:=I x.seq) rfl];simp only[I,Ad,c3,aG,aB,Aa];exact stop
  ·rw[aK (by rintro⟨y,_⟩;exact c1 y)]at C;subst C
   simp only[c1,aG,aB,Aa,Jc,Jb];exact stop
 ·rw[aK h0]
  simp only[h0,aA,Aa,Ad];by_cases ai:X=34
  ·rw[aN ai]
   simp only[ai,aB,Aa];exact no 34 h4 _ M4 ae o u
  ·rw[aK ai]
   simp only[ai,aA,Aa,Ad];by_cases aj:X=32
   ·rw[aN aj]
    simp only[aj,aB,Aa];rw[Az (l:=Bc C7) rfl];refine(Bjt A hK (by omega) M4 o hz).Ap ?_;rintro _ g ⟨rfl,M5,k5,E⟩;have u:=k5.at o u F8;have c0:Kf F h4 g:=k5.less sub;exact fin C7 false _ g _ rfl (fun b hb=>by rw[bZ hb];decide) M5 (ae.trans c0) E u
   ·rw[aK aj]
    simp only[aj,aA,Aa];exact no 0 h4 _ M4 ae o u
section
def Au5(g:Gm)(x:Me):Bool:=decide (x.state=1)&&meB g x
theorem A1a(M:Da h m S F)(hb:HB h)(o:Tk x.An)(hm:Tk x.Br):
 Ok (K1 K (.ptr m 0) (.agg x.cells) h) fun v h'=>v=.bool (Au5 S.g x)/\Ext h h':=by
 simp only[K1,Aa];have f:Ext h (h.new (.cells x.cells 53)):=Ar.new _ _;have j:(h.new (.cells x.cells 53)).get h.next=some (.cells x.cells 53):=Ac _ _
 generalize h.new (.cells x.cells 53)=y at f j⊢;have b:=f.hb hb;obtain⟨_,D,p,bl,ql,np,q,c,G,a⟩:=M.s.ext hb f;have k:=b _ _ j;have lm:=b _ _ a.Iv.Iv;rw[Ah k (by kernel_rfl),Aj j rfl (v:=I x.state) rfl];simp only[I,Ad];unfold Au5;by_cases h0:x.state=1
 ·simp only[h0,aB,Aa,Aw,aZ]
  rw[Ah k (by kernel_rfl),C8 j rfl,Am (n:=6) rfl]
  try simp only[Aa,Aw]
  rw[Ah lm (by kernel_rfl),a.Iv.A9f]
  try simp only[Aa,Aw]
  refine Ok.Ds (by kernel_rfl) (by kernel_rfl) (Aqy (K:=K) (Du b) h0 o hm) (fun _ _ p=>p.2) ?_;rintro _ t h2 ⟨rfl,_⟩ _ u;simp only[K9,Aa];exact .ret ⟨rfl,f.trans u⟩
 ·simp only[h0,aA,Aa,Aw,aX,K9]
  exact .ret ⟨rfl,f⟩
section
variable (A:Ca disp)(hK:10000<K)(hd:20<=d){b3 b4:Nat}(M:Da h m S F)(hb:HB h)(x:Me)
include A hK hd M hb
theorem A18 {ih:EV->EV->EV->EV->EV->Ab->R}{f:EV}{z mt:Int}(hz:Tk z)(G:∀k:EV->R,Aw0 2 2 true 2 f (.int .i64 (i:Int)) k=k (.agg [I z,I mt]))(f3:F b3)(f4:F b4)
 (g3:h.get b3=some (.cells x.cells 53)) (B:h.get b4=some (.cells (Bc C7) 85))
 (g:(S.Ea x z mt).2.2.1=true\/¬(S.Ea x z mt).2.2.2=0->∀h',Da h' m (S.Ea x z mt).1 F->Kf (fun i=>F i/\¬i=b4) h h'->HB h'->((S.Ea x z mt).2.1.length=32/\∀b∈(S.Ea x z mt).2.1,b<256)->Q (.tuple [.agg (Bc (S.Ea x z mt).2.1),I (S.Ea x z mt).2.2.2]) h')
 (j:¬((S.Ea x z mt).2.2.1=true\/¬(S.Ea x z mt).2.2.2=0)->∀h',Da h' m (S.Ea x z mt).1 F->Kf F h h'->HB h'->Ok (L8 (Ag TT disp K d false) (Ag TT disp K d true) K ih (.ptr m 0) (.ptr b3 0) (.ptr b4 0) f (.int .i64 (i:Int)) h') Q) :
 Ok (Q3 (Ag TT disp K d false) (Ag TT disp K d true) K ih (.ptr m 0) (.ptr b3 0) (.ptr b4 0) f (.int .i64 (i:Int)) h) Q:=by
 simp only[Q3,G,Aa];refine Ok.st [I z,I mt] (Ac _ _) rfl rfl rfl ?_;have t:Ext h ((h.new (.cells [EV.int .i64 0,.int .i64 0] 71)).put h.next (.cells [I z,I mt] 71)):=(Ar.new h _:Ext _ _).Ak (.inr (aC _)) (aE _) _;have H:((h.new (.cells [EV.int .i64 0,.int .i64 0] 71)).put h.next (.cells [I z,I mt] 71)).get h.next=some (.cells [I z,I mt] 71):=Ae _ _ _
 generalize (h.new (.cells [EV.int .i64 0,.int .i64 0] 71)).put h.next (.cells [I z,I mt] 71)=h1 at t H⊢
 have J:=t.hb hb;have M1:=M.ext hb t;have sub:∀i,F i->Bh F h h1 i:=fun i a=>.inl a
 rw[C8 (t.at hb g3) rfl,Am (n:=6) rfl]
 try simp only[Aa]
 rw[show ∀k:EV->R,Au9 2 1 (.ptr h.next 0) (.int .i64 0) k=k (.ptr h.next 0)from fun k=>rfl,Aj H rfl (v:=I z) rfl];rw[show ∀k:EV->R,Au9 2 1 (.ptr h.next 0) (.int .i64 1) k=k (.ptr h.next 1)from fun k=>rfl,Aj H rfl (v:=I mt) rfl];refine(A7f A hK hd M1 J x hz mt).Ap ?_;rintro _ h2 ⟨rfl,bl,O,M2,k2,u⟩;have P:Kf F h h2:=t.Arq k2;generalize S.Ea x z mt=C at g j bl O M2⊢;obtain⟨T,l,ok,U⟩:=C;simp only at g j bl O M2⊢;have ul:(Bc l).length=32:=by rw[Bi,bl]
 simp only[Aa,Gv];refine Ok.st (Bc l) (Ac _ _) rfl (by show F9 (Bc l)=32;rw[Bf,ul]) (Bm (by show(Bc C7).length=(Bc l).length;rw[ul,Bi,Aay])) ?_;have E:Ext h2 ((h2.new (.cells (Bc C7) 85)).put h2.next (.cells (Bc l) 85)):=(Ar.new h2 _:Ext _ _).Ak (.inr (aC _)) (aE _) _;have W:((h2.new (.cells (Bc C7) 85)).put h2.next (.cells (Bc l) 85)).get h2.next=some (.cells (Bc l) 85):=Ae _ _ _
 generalize (h2.new (.cells (Bc C7) 85)).put h2.next (.cells (Bc l) 85)=o at E W⊢
 have p:=E.hb u;have X:=(M2.ext u E).less fun i (a:F i)=>Or.inl (sub i a)
 have q:Kf F h o:=P.trans E.kf;have B:=q.at hb B f4;have Y:=p _ _ B;have stop:(ok=true\/¬U=0)->Ok (Oc 32 (.ptr h2.next 0) o fun V=>stE 32 (.ptr b4 0) V o fun h=>I9 TT [.c (.ptr b4 0) 85,.v (I U)] h) Q:=fun hc=>by
  rw[C8 W rfl,Am ul]
  try simp only[Aa]
  refine Ok.st (Bc l) B rfl (by show F9 (Bc l)=32;rw[Bf,ul]) (Bm (by show(Bc C7).length=(Bc l).length;rw[ul,Bi,Aay])) ?_;rw[Fu (Ae _ _ _) Ap3.1 Ap3.2 ul];have Z:Ar (fun i=>i=b4) o (o.put b4 (.cells (Bc l) 85)):=(Ar.refl (S:=fun i=>i=b4) o).Ak (.inl rfl) Y _;exact .ret (g hc _ (X.Ai3 Z fun i a _=>a▸f4) ((q.less fun i a=>a.1).trans (Z.mono fun i a y=>y.2 a)) (p.put Y _) ⟨bl,O⟩)
 simp only[I,Ad]at stop⊢;cases ok with
 | true=>
  simp only[Aa,Ad,Q1];exact stop (.inl rfl)
 | false=>
  simp only[Aa,Ad,Q1];by_cases h0:U=0
  ·simp only[h0,aD,aA,Aa]
   exact j (by rw[h0];simp) o X q p
  ·simp only[h0,aG,aB,Aa]
   exact stop (.inr h0)
end
noncomputable def Mi.read(S:Mi)(x:Me):Mi × List Nat × Int:=
 if Au5 S.g x=false then(S,C7,10)else
 if(S.Ea x x.An x.Br).2.2.1=true\/¬(S.Ea x x.An x.Br).2.2.2=0 then((S.Ea x x.An x.Br).1,(S.Ea x x.An x.Br).2.1,(S.Ea x x.An x.Br).2.2.2)else
 if((S.Ea x x.An x.Br).1.Ea x x.Br x.An).2.2.1=true\/¬((S.Ea x x.An x.Br).1.Ea x x.Br x.An).2.2.2=0 then(((S.Ea x x.An x.Br).1.Ea x x.Br x.An).1,((S.Ea x x.An x.Br).1.Ea x x.Br x.An).2.1,((S.Ea x x.An x.Br).1.Ea x x.Br x.An).2.2.2)else
 (((S.Ea x x.An x.Br).1.Ea x x.Br x.An).1,C7,41)
theorem Bhp(A:Ca disp)(hK:10000<K)(hd:21<=d)(M:Da h m S F)(hb:HB h)(X:Tk x.An)(hm:Tk x.Br):
 Ok (Ag TT disp K d false 193 [.ptr m 0,.agg x.cells] h) fun v h'=>v=.tuple [.agg (Bc (S.read x).2.1),I (S.read x).2.2]/\((S.read x).2.1.length=32/\∀b∈(S.read x).2.1,b<256)/\Da h' m (S.read x).1 F/\Kf F h h'/\HB h':=by
 obtain⟨dd,rfl⟩:∃k,d=k+1:=⟨d-1,by omega⟩;rw[Ak0 A (by omega)];simp only[Afr,Aa];rw[show(h.new (.cells x.cells 53)).next=h.next+1 from rfl,Gv];have J:Ext h ((h.new (.cells x.cells 53)).new (.cells (Bc C7) 85)):=(Ar.new _ _).Di _;have j:((h.new (.cells x.cells 53)).new (.cells (Bc C7) 85)).get h.next=some (.cells x.cells 53):=by
  rw[Ay _ (aE _)];exact Ac _ _
 have p:((h.new (.cells x.cells 53)).new (.cells (Bc C7) 85)).get (h.next+1)=some (.cells (Bc C7) 85):=Ac _ _;have n1:((h.new (.cells x.cells 53)).new (.cells (Bc C7) 85)).next=h.next+2:=rfl
 generalize (h.new (.cells x.cells 53)).new (.cells (Bc C7) 85)=h1 at J j p n1⊢;have q:=J.hb hb;have M1:=M.ext hb J;rw[C8 j rfl,Am (n:=6) rfl]
 try simp only[Aa]
 refine(A1a (K:=K) M1 q X hm).Ap ?_;rintro _ h2 ⟨rfl,E⟩;have f:=E.hb q;have G:Ext h h2:=J.trans E;have M2:=M.ext hb G;have j:=E.at q j;have p:=E.at q p;have ln:=E.next
 have f3:Bh F h h2 h.next:=.inr ⟨aC _,by omega⟩
 have f4:Bh F h h2 (h.next+1):=.inr ⟨by omega,by omega⟩;have sub:∀i,F i->Bh F h h2 i:=fun i t=>.inl t
 have back:∀h',Kf (fun i=>Bh F h h2 i/\¬i=h.next+1) h2 h'->Kf F h h':=fun h' k=>
  Ar.then (S:=fun i=>¬F i) (Ext.to G) k fun i y hl z=>y ⟨.inl z,fun y=>by have:=M.lt i z;omega⟩
 have fin:∀(o:Ab) (T:Mi) (O:Int),Da o m T (Bh F h h2)->Kf (Bh F h h2) h2 o->HB o ->
  Ok (Bu (Nc 1) (Bc C7) [] fun v=>stE 32 (.ptr (h.next+1) 0) v o fun h'=>I9 TT [.c (.ptr (h.next+1) 0) 85,.v (I O)] h') fun v h'=>v=.tuple [.agg (Bc C7),I O]/\(C7.length=32/\∀b∈C7,b<256)/\Da h' m T F/\Kf F h h'/\HB h':=by
  intro o T O H u a;have p:=u.at f p f4;have Y:=a _ _ p;rw[Az (l:=Bc C7) rfl];refine Ok.st (Bc C7) p rfl rfl (Bm rfl) ?_;rw[Fu (Ae _ _ _) Ap3.1 Ap3.2 rfl];have Z:Ar (fun i=>i=h.next+1) o (o.put (h.next+1) (.cells (Bc C7) 85)):=(Ar.refl (S:=fun i=>i=h.next+1) o).Ak (.inl rfl) Y _;exact .ret ⟨rfl,⟨rfl,fun b hb=>by rw[bZ hb];decide⟩,(H.Ai3 Z fun i t _=>t▸f4).less sub,back _ ((u.less fun i t=>t.1).trans (Z.mono fun i t y=>y.2 t)),a.put Y _⟩
 unfold Mi.read;cases hl:Au5 S.g x with
 | false=>
  simp only[Aa,bG];exact fin h2 S 10 M2 (Ar.refl _) f
 | true=>
  rw[aK (by simp)];simp only[Aa,Yt];rw[Aj j rfl (v:=I x.An) rfl]
  try simp only[Aa]
  rw[Aj j rfl (v:=I x.Br) rfl,Az (l:=[I x.An,I x.Br]) rfl]
  try simp only[Aa]
  rw[Aj j rfl (v:=I x.Br) rfl]
  try simp only[Aa]
  rw[Aj j rfl (v:=I x.An) rfl,Az (l:=[I x.Br,I x.An]) rfl,Az (l:=[I x.An,I x.Br,I x.Br,I x.An]) rfl];obtain⟨k,rfl⟩:∃k,K=k+3:=⟨K-3,by omega⟩;rw[show Dl (Ag TT disp (k+3) dd false) (Ag TT disp (k+3) dd true) (k+3) (k+3)=Dl (Ag TT disp (k+3) dd false) (Ag TT disp (k+3) dd true) (k+3) (k+2+1)from rfl];rw[Dl];simp only[Ad,show decide ((0:Int)<2)=true from rfl,Aa];refine A18 A hK (by omega) M2 f x (i:=0) X (fun k=>rfl) f3 f4 j p ?_ ?_
  ·intro B o H u a bl
   rw[aN B];exact⟨rfl,bl,H.less sub,back _ u,a⟩
  ·intro B o H u a
   rw[aK B];simp only[L8,Ad];rw[show Cx .i64 (((0:Nat):Int)+1)=((1:Nat):Int)from rfl];rw[show Dl (Ag TT disp (k+3) dd false) (Ag TT disp (k+3) dd true) (k+3) (k+2)=Dl (Ag TT disp (k+3) dd false) (Ag TT disp (k+3) dd true) (k+3) (k+1+1)from rfl];rw[Dl];simp only[Ad,show decide (((1:Nat):Int)<2)=true from rfl,Aa];have P:=u.at f j f3;have U:=u.at f p f4;refine A18 A hK (by omega) H a x (i:=1) hm (fun k=>rfl) f3 f4 P U ?_ ?_
   ·intro B h4 V W C bl
    rw[aN B];exact⟨rfl,bl,V.less sub,back _ ((u.less fun i t=>t.1).trans W),C⟩
   ·intro B h4 V W C
    rw[aK B];simp only[L8,Ad];rw[show Cx .i64 (((1:Nat):Int)+1)=((2:Nat):Int)from rfl];rw[Dl];simp only[Ad,show decide (((2:Nat):Int)<2)=false from rfl,Aa,Yy,Gv];exact fin h4 _ 41 V (u.trans W) C
section
variable (A:Ca disp)(hK:10000<K)(hd:20<=d){b3 b4 b7:Nat}(M:Da h m S F)(hb:HB h)(x:Me)
include A hK hd M hb
theorem Axy{v30:EV}{z mt:Int}{l0:List Nat}{n gd:Nat}(hn:n<=10)(aw:gd<=10)(u:l0.length=32)(hz:Tk z)(Z:∀k:EV->R,Aw0 2 2 true 2 v30 (.int .i64 (i:Int)) k=k (.agg [I z,I mt]))(f3:F b3)(f4:F b4)(f7:F b7)(ax:b4≠b7)
 (g3:h.get b3=some (.cells x.cells 53)) (W:h.get b4=some (.cells (Bc C7) 85)) (B:h.get b7=some (.cells (Bc l0) 85))
 (q:¬(S.Ea x z mt).2.2.2=0->∀h',Da h' m (S.Ea x z mt).1 F->Kf (fun i=>F i/\¬i=b4/\¬i=b7) h h'->HB h'->Q (.tuple [.agg (Bc C7),I 0,I (S.Ea x z mt).2.2.2]) h')
 (f:(S.Ea x z mt).2.2.2=0->∀h',Da h' m (S.Ea x z mt).1 F->Kf (fun i=>F i/\¬i=b7) h h'->HB h'->(if(S.Ea x z mt).2.2.1=true then(S.Ea x z mt).2.1 else l0).length=32 ->
  h'.get b7=some (.cells (Bc (if(S.Ea x z mt).2.2.1=true then(S.Ea x z mt).2.1 else l0)) 85) ->
  Ok (H2 (Ag TT disp K d false) (Ag TT disp K d true) K ih (.ptr m 0) (.ptr b3 0) (.ptr b4 0) (.ptr b7 0) (I ((if(S.Ea x z mt).2.2.1=true/\(S.Ea x z mt).1.I7 z=false then n+1 else n:Nat):Int)) (I ((if(S.Ea x z mt).2.2.1=true then gd+1 else gd:Nat):Int)) v30 (.int .i64 (i:Int)) h') Q) :
 Ok (Pq (Ag TT disp K d false) (Ag TT disp K d true) K ih (.ptr m 0) (.ptr b3 0) (.ptr b4 0) (.ptr b7 0) (I (n:Int)) (I (gd:Int)) v30 (.int .i64 (i:Int)) h) Q:=by
 simp only[Pq,Z,Aa];refine Ok.st [I z,I mt] (Ac _ _) rfl rfl rfl ?_;have E:Ext h ((h.new (.cells [EV.int .i64 0,.int .i64 0] 71)).put h.next (.cells [I z,I mt] 71)):=(Ar.new h _:Ext _ _).Ak (.inr (aC _)) (aE _) _;have a:((h.new (.cells [EV.int .i64 0,.int .i64 0] 71)).put h.next (.cells [I z,I mt] 71)).get h.next=some (.cells [I z,I mt] 71):=Ae _ _ _
 have n1:((h.new (.cells [EV.int .i64 0,.int .i64 0] 71)).put h.next (.cells [I z,I mt] 71)).next=h.next+1:=rfl
 generalize (h.new (.cells [EV.int .i64 0,.int .i64 0] 71)).put h.next (.cells [I z,I mt] 71)=X at E a n1⊢
 have G:=E.hb hb;have M1:=M.ext hb E;have aa:Bh F h X h.next:=.inr ⟨aC _,by omega⟩
 have sub:∀i,F i->Bh F h X i:=fun i b=>.inl b
 rw[C8 (E.at hb g3) rfl,Am (n:=6) rfl]
 try simp only[Aa]
 rw[show ∀k:EV->R,Au9 2 1 (.ptr h.next 0) (.int .i64 0) k=k (.ptr h.next 0)from fun k=>rfl,Aj a rfl (v:=I z) rfl];rw[show ∀k:EV->R,Au9 2 1 (.ptr h.next 0) (.int .i64 1) k=k (.ptr h.next 1)from fun k=>rfl,Aj a rfl (v:=I mt) rfl];refine(A7f A hK hd M1 G x hz mt).Ap ?_;rintro _ h2 ⟨rfl,bl,bu,M2,k2,t⟩;have ab:Kf F h h2:=E.Arq k2;have a:=k2.at G a aa;generalize S.Ea x z mt=C at q f bl bu M2⊢;obtain⟨T,l,ok,er⟩:=C;simp only at q f bl bu M2⊢;have ul:(Bc l).length=32:=by rw[Bi,bl]
 have ad:(Bc l0).length=32:=by rw[Bi,u]
 simp only[Aa,Gv];refine Ok.st (Bc l) (Ac _ _) rfl (by show F9 (Bc l)=32;rw[Bf,ul]) (Bm (by show(Bc C7).length=(Bc l).length;rw[ul,Bi,Aay])) ?_;have H:Ext h2 ((h2.new (.cells (Bc C7) 85)).put h2.next (.cells (Bc l) 85)):=(Ar.new h2 _:Ext _ _).Ak (.inr (aC _)) (aE _) _;have J:((h2.new (.cells (Bc C7) 85)).put h2.next (.cells (Bc l) 85)).get h2.next=some (.cells (Bc l) 85):=Ae _ _ _
 generalize (h2.new (.cells (Bc C7) 85)).put h2.next (.cells (Bc l) 85)=g at H J⊢
 have j:=H.hb t;have a:=H.at t a;have O:=(M2.ext t H).less fun i (b:Bh F h X i)=>Or.inl b
 have M3:=O.less sub;have o:Kf F h g:=ab.trans H.kf;have W:=o.at hb W f4;have B:=o.at hb B f7;have l4:=j _ _ W;have l7:=j _ _ B;simp only[I,Ad];by_cases h0:er=0
 ·simp only[h0,aD,aA,Aa,Xw]
  have f:=f h0;cases ok with
  | false=>
   simp only[Aa];have:=f g M3 (o.less fun i b=>b.1) j (by simp[u]) (by simpa using B);simpa [I]using this
  | true=>
   simp only[Aa,Xl];rw[C8 J rfl,Am ul]
   try simp only[Aa]
   refine Ok.st (Bc l) B rfl (by show F9 (Bc l)=32;rw[Bf,ul]) (Bm (by show(Bc l0).length=(Bc l).length;rw[ul,ad])) ?_;have c7:Ar (fun i=>i=b7) g (g.put b7 (.cells (Bc l) 85)):=(Ar.refl (S:=fun i=>i=b7) g).Ak (.inl rfl) l7 _;have M4:=O.Ai3 c7 fun i b _=>by
    have b:i=b7:=b;subst b;exact sub _ f7
   have P:(g.put b7 (.cells (Bc l) 85)).get b7=some (.cells (Bc l) 85):=Ae _ _ _;have a:(g.put b7 (.cells (Bc l) 85)).get h.next=some (.cells [I z,I mt] 71):=by
    rw[Af _ (fun y=>by have:=M.lt _ f7;omega)];exact a
   have U:Kf (fun i=>F i/\¬i=b7) h (g.put b7 (.cells (Bc l) 85)):=(o.less fun i b=>b.1).trans (c7.mono fun i b y=>y.2 b);have p:HB (g.put b7 (.cells (Bc l) 85)):=j.put l7 _;generalize g.put b7 (.cells (Bc l) 85)=h4 at M4 P a U p⊢;simp only[I,Ad];rw[Cn (n:=(gd:Int)+1) (by omega) (by omega),Cn (n:=(n:Int)+1) (by omega) (by omega)];rw[show ∀k:EV->R,Au9 2 1 (.ptr h.next 0) (.int .i64 0) k=k (.ptr h.next 0)from fun k=>rfl,Aj a rfl (v:=I z) rfl];refine(Hy (K:=K) M4.s p hz).Ap ?_;rintro _ h5 ⟨rfl,Y⟩;have af:=Y.hb p;have M5:=(M4.ext p Y).less fun i (b:Bh F h X i)=>Or.inl b
   have this:=f h5 (M5.less sub) (U.trans Y.kf) af (by simpa using bl) (by simpa using Y.at p P);cases V:T.I7 z with
   | true=>
    simp only[Aa];simpa [I,V]using this
   | false=>
    simp only[Aa,Ad];simpa [I,V]using this
 ·simp only[h0,aG,aB,Aa]
  rw[Az (l:=Bc C7) rfl];refine Ok.st (Bc C7) W rfl rfl (Bm rfl) ?_;rw[Agn (Ae _ _ _) Ap3.1 Ap3.2 rfl];have c8:Ar (fun i=>i=b4) g (g.put b4 (.cells (Bc C7) 85)):=(Ar.refl (S:=fun i=>i=b4) g).Ak (.inl rfl) l4 _;exact .ret (q h0 _ (M3.Ai3 c8 fun i b _=>b▸f4) ((o.less fun i b=>b.1).trans (c8.mono fun i b y=>y.2.1 b)) (j.put l4 _))
end
noncomputable def Mi.A4f(x:Me)(C D:Mi × List Nat × Bool × Int):Mi × List Nat × Int × Int:=
 if ¬D.2.2.2=0 then(D.1,C7,0,D.2.2.2)else
 if C.2.2.1=false/\D.2.2.1=false then(D.1,C7,0,41)else
 (D.1,if D.2.2.1=true then D.2.1 else C.2.1,(if C.2.2.1=true/\C.1.I7 x.An=false then 1 else 0)+(if D.2.2.1=true/\D.1.I7 x.Br=false then 1 else 0),0)
noncomputable def Mi.check(S:Mi)(x:Me):Mi × List Nat × Int × Int:=
 if Au5 S.g x=false then(S,C7,0,10)else
 if ¬(S.Ea x x.An x.Br).2.2.2=0 then((S.Ea x x.An x.Br).1,C7,0,(S.Ea x x.An x.Br).2.2.2)else
 Mi.A4f x (S.Ea x x.An x.Br) ((S.Ea x x.An x.Br).1.Ea x x.Br x.An)
theorem Ben(A:Ca disp)(hK:10000<K)(hd:21<=d)(M:Da h m S F)(hb:HB h)(hz:Tk x.An)(hm:Tk x.Br):
 Ok (Ag TT disp K d false 106 [.ptr m 0,.agg x.cells] h) fun v h'=>v=.tuple [.agg (Bc (S.check x).2.1),I (S.check x).2.2.1,I (S.check x).2.2.2]/\(S.check x).2.1.length=32/\Da h' m (S.check x).1 F/\Kf F h h'/\HB h':=by
 obtain⟨dd,rfl⟩:∃k,d=k+1:=⟨d-1,by omega⟩;rw[Ajt A (by omega)];simp only[Acm,Aa];rw[show(h.new (.cells x.cells 53)).next=h.next+1 from rfl,Gv];have x1:Ext h ((h.new (.cells x.cells 53)).new (.cells (Bc C7) 85)):=(Ar.new _ _).Di _;have j:((h.new (.cells x.cells 53)).new (.cells (Bc C7) 85)).get h.next=some (.cells x.cells 53):=by
  rw[Ay _ (aE _)];exact Ac _ _
 have t:((h.new (.cells x.cells 53)).new (.cells (Bc C7) 85)).get (h.next+1)=some (.cells (Bc C7) 85):=Ac _ _;have n1:((h.new (.cells x.cells 53)).new (.cells (Bc C7) 85)).next=h.next+2:=rfl
 generalize (h.new (.cells x.cells 53)).new (.cells (Bc C7) 85)=h1 at x1 j t n1⊢;have u:=x1.hb hb;have M1:=M.ext hb x1;rw[C8 j rfl,Am (n:=6) rfl]
 try simp only[Aa]
 refine(A1a (K:=K) M1 u hz hm).Ap ?_;rintro _ h2 ⟨rfl,W⟩;have o:=W.hb u;have O:Ext h h2:=x1.trans W;have M2:=M.ext hb O;have j:=W.at u j;have t:=W.at u t;have ln:=W.next
 have a6:Bh F h h2 (h.next+1):=.inr ⟨by omega,by omega⟩;have l4:=o _ _ t;unfold Mi.check;cases hl:Au5 S.g x with
 | false=>
  simp only[Aa,bG];rw[Az (l:=Bc C7) rfl];refine Ok.st (Bc C7) t rfl rfl (Bm rfl) ?_;rw[Agn (Ae _ _ _) Ap3.1 Ap3.2 rfl];have J:Ext h (h2.put (h.next+1) (.cells (Bc C7) 85)):=O.Ak (.inr (by omega)) l4 _;exact .ret ⟨rfl,rfl,(M.ext hb J).less fun i (f:F i)=>Or.inl f,J.kf,o.put l4 _⟩
 | true=>
  rw[aK (by simp)];simp only[Aa,Xr,Gv];have J:Ext h2 (h2.new (.cells (Bc C7) 85)):=Ar.new _ _;have g7:(h2.new (.cells (Bc C7) 85)).get h2.next=some (.cells (Bc C7) 85):=Ac _ _
  have n3:(h2.new (.cells (Bc C7) 85)).next=h2.next+1:=rfl
  generalize h2.new (.cells (Bc C7) 85)=B at J g7 n3⊢;have P:=J.hb o;have X:Ext h B:=O.trans J;have M3:=M.ext hb X;have j:=J.at o j;have t:=J.at o t;have f3:Bh F h B h.next:=.inr ⟨aC _,by omega⟩
  have f4:Bh F h B (h.next+1):=.inr ⟨by omega,by omega⟩;have f7:Bh F h B h2.next:=.inr ⟨by omega,by omega⟩
  have E:h.next+1≠h2.next:=by omega
  have sub:∀i,F i->Bh F h B i:=fun i f=>.inl f
  have back:∀h',Kf (fun i=>Bh F h B i/\¬i=h.next+1/\¬i=h2.next) B h'->Kf F h h':=fun h' k=>
   Ar.then (S:=fun i=>¬F i) (Ext.to X) k fun i y hl z=>y ⟨.inl z,fun y=>by have:=M.lt i z;omega,fun y=>by have:=M.lt i z;omega⟩
  rw[Aj j rfl (v:=I x.An) rfl]
  try simp only[Aa]
  rw[Aj j rfl (v:=I x.Br) rfl,Az (l:=[I x.An,I x.Br]) rfl]
  try simp only[Aa]
  rw[Aj j rfl (v:=I x.Br) rfl]
  try simp only[Aa]
  rw[Aj j rfl (v:=I x.An) rfl,Az (l:=[I x.Br,I x.An]) rfl,Az (l:=[I x.An,I x.Br,I x.Br,I x.An]) rfl];obtain⟨k,rfl⟩:∃k,K=k+3:=⟨K-3,by omega⟩;rw[show Db (Ag TT disp (k+3) dd false) (Ag TT disp (k+3) dd true) (k+3) (k+3)=Db (Ag TT disp (k+3) dd false) (Ag TT disp (k+3) dd true) (k+3) (k+2+1)from rfl];rw[Db];simp only[Ad,show decide ((0:Int)<2)=true from rfl,Aa];refine Axy A hK (by omega) M3 P x (i:=0) (n:=0) (gd:=0) (l0:=C7) (by omega) (by omega) rfl hz (fun k=>rfl) f3 f4 f7 E j t g7 ?_ ?_
  ·intro T h4 M4 U G
   rw[aN T];exact⟨rfl,rfl,M4.less sub,back _ U,G⟩
  ·intro T h4 M4 U G p Y
   rw[aK (show ¬¬(S.Ea x x.An x.Br).2.2.2=0 from fun y=>y T)];have ai:=U.at P j ⟨f3,by omega⟩;have Z:=U.at P t ⟨f4,E⟩;generalize S.Ea x x.An x.Br=C at M4 p Y⊢;simp only[H2,Ad];rw[show Cx .i64 (((0:Nat):Int)+1)=((1:Nat):Int)from rfl];rw[show Db (Ag TT disp (k+3) dd false) (Ag TT disp (k+3) dd true) (k+3) (k+2)=Db (Ag TT disp (k+3) dd false) (Ag TT disp (k+3) dd true) (k+3) (k+1+1)from rfl];rw[Db];simp only[Ad,show decide (((1:Nat):Int)<2)=true from rfl,Aa];have aj:(if C.2.2.1=true/\C.1.I7 x.An=false then 0+1 else 0)<=10:=by split<;>omega
   have al:(if C.2.2.1=true then 0+1 else 0)<=10:=by split<;>omega
   refine Axy A hK (by omega) M4 G x (i:=1) aj al p hm (fun k=>rfl) f3 f4 f7 E ai Z Y ?_ ?_
   ·intro T V M5 k5 H
    unfold Mi.A4f;rw[aN T];exact⟨rfl,rfl,M5.less sub,back _ ((U.less fun i f=>⟨f.1,f.2.2⟩).trans k5),H⟩
   ·intro T V M5 k5 H a b
    unfold Mi.A4f;rw[aK (show ¬¬(C.1.Ea x x.Br x.An).2.2.2=0 from fun y=>y T)];have aa:=k5.at G Z ⟨f4,E⟩;have ab:=H _ _ aa;generalize C.1.Ea x x.Br x.An=D at M5 a b⊢;simp only[H2,Ad];rw[show Cx .i64 (((1:Nat):Int)+1)=((2:Nat):Int)from rfl];rw[Db];simp only[Ad,show decide (((2:Nat):Int)<2)=false from rfl,Aa,Wx,I];have ao:Kf (fun i=>Bh F h B i/\¬i=h.next+1/\¬i=h2.next) B V:=(U.less fun i f=>⟨f.1,f.2.2⟩).trans (k5.less fun i f=>⟨f.1,f.2.2⟩);have fin:∀(l:List Nat) (n er:Int),l.length=32->Ok (stE 32 (.ptr (h.next+1) 0) (.agg (Bc l)) V fun h'=>I9 TT [.c (.ptr (h.next+1) 0) 85,.v (I n),.v (I er)] h') fun v h'=>v=.tuple [.agg (Bc l),I n,I er]/\l.length=32/\Da h' m D.1 F/\Kf F h h'/\HB h':=by
     intro l n er hl;have ul:(Bc l).length=32:=by rw[Bi,hl]
     refine Ok.st (Bc l) aa rfl (by show F9 (Bc l)=32;rw[Bf,ul]) (Bm (by show(Bc C7).length=(Bc l).length;rw[ul,Bi,Aay])) ?_;rw[Agn (Ae _ _ _) Ap3.1 Ap3.2 ul];have c8:Ar (fun i=>i=h.next+1) V (V.put (h.next+1) (.cells (Bc l) 85)):=(Ar.refl (S:=fun i=>i=h.next+1) V).Ak (.inl rfl) ab _;exact .ret ⟨rfl,hl,(M5.Ai3 c8 fun i f _=>f▸f4).less sub,back _ (ao.trans (c8.mono fun i f y=>y.2.1 f)),H.put ab _⟩
    cases c1:C.2.2.1 with
    | false=>
     rw[c1]at a b;cases c2:D.2.2.1 with
     | false=>
      simp only[aU,fR,aY,and_self,bG,show((0:Nat):Int)=0 from rfl,aB,Aa,Gv];rw[Az (l:=Bc C7) rfl];exact fin C7 0 41 rfl
     | true=>
      rw[c2]at a b;simp only[bG]at a b;simp only[aU,fR,aY,fM,and_false,fS,bG,Aa,Lb,show decide (((0+1:Nat):Int)=0)=false from rfl];rw[C8 b rfl,Am (by rw[Bi,a])];simp only[Aa];have:=fin D.2.1 ((if D.1.I7 x.Br=false then 0+1 else 0:Nat):Int) 0 a;simp only[I]at this;cases q:D.1.I7 x.Br<;>simpa [q]using this
    | true=>
     rw[c1]at p a b;simp only[bG]at p;cases c2:D.2.2.1 with
     | false=>
      rw[c2]at a b;simp only[bG,aU,aY]at a b;simp only[fM,fR,aY,fS,bG,aU,Aa,Lb,show decide (((0+1:Nat):Int)=0)=false from rfl];rw[C8 b rfl,Am (by rw[Bi,a])];simp only[Aa];have:=fin C.2.1 ((if C.1.I7 x.An=false then 0+1 else 0:Nat):Int) 0 p;simp only[I]at this;cases q:C.1.I7 x.An<;>simpa [q]using this
     | true=>
      rw[c2]at a b;simp only[bG]at a b;simp only[fM,fR,aY,fS,bG,Aa,Lb,show decide (((0+1+1:Nat):Int)=0)=false from rfl];rw[C8 b rfl,Am (by rw[Bi,a])];simp only[Aa];have:=fin D.2.1 (((if C.1.I7 x.An=false then 1 else 0)+(if D.1.I7 x.Br=false then 1 else 0):Nat):Int) 0 a;simp only[I]at this;cases au:C.1.I7 x.An<;>cases q:D.1.I7 x.Br<;>simpa [au,q]using this
end
noncomputable def Mc.new(n size:Nat)(op:Int):Mc:=⟨⟨n,size,op,0,false,fun _=>Zn.empty⟩,[],[]⟩
noncomputable def Mi.new(g:Gm):Mi:=⟨g,Mc.new (g.D*g.Z).toNat g.S.toNat g.O,fun _=>[],fun _=>0,-1,-1,0⟩
theorem Bmm {g:Gm}(s:Sm g){h0:Ab}(hb:HB h){V M zl p bl ql:Nat}{z q c:Nat->Nat}(d:Ah0 h D V M zl (g.D*g.Z).toNat z (fun _=>0) g.S g.O 0 false .Ao .Ao [] (fun _=>Zn.empty))
 (nd:(h0.next<=D/\h0.next<=M)/\h0.next<=V/\h0.next<=zl/\∀d,d<(g.D*g.Z).toNat->h0.next<=z d) (E:Aaz h m D p bl (g.D*g.Z).toNat g (-1) (-1) 0 (fun _=>0)) (v:Fh h p ql g.D.toNat q c g (fun _=>[]))
 (T:(h0.next<=m/\h0.next<=bl)/\h0.next<=p/\h0.next<=ql/\∀d,d<g.D.toNat->h0.next<=q d/\h0.next<=c d) (le:h0.next<=h.next):Da h m (Mi.new g) (fun i=>i<h0.next):=by
 have:=s.d0;have:=s.d1;have:=s.z0;have:=s.z1;have:=s.s0;have:=s.s1;obtain⟨m0,m1⟩:=N1 (a:=g.D) (b:=g.Z) (A:=8) (B:=64) (by omega) (by omega) (by omega) (by omega);have j:=d.dev;have u:∀i,i<(g.D*g.Z).toNat->∃s,h.get (z i)=some (.cells [s,I g.S,I 0,I 0,.bool false] 277):=fun i f=>by
  obtain⟨s,a,_⟩:=(j.An i f).An;exact⟨s,a⟩
 have U:∀i,Azw V zl (g.D*g.Z).toNat z (fun _=>0) (fun _=>Zn.empty) i->i=V\/i=zl\/∃d,d<(g.D*g.Z).toNat/\i=z d:=fun i f=>by
  rcases f with y|y|⟨d,hd,y|y⟩
  ·exact .inl y
  ·exact .inr (.inl y)
  ·exact .inr (.inr ⟨d,hd,y⟩)
  ·exact absurd rfl y.1
 have kind:∀i o,h.get i=some o->(∀l,o≠.cells l 152)->(∀l,o≠.vec l 220 1)->(∀l,o≠.cells l 277)->¬Azw V zl (g.D*g.Z).toNat z (fun _=>0) (fun _=>Zn.empty) i:=fun i o t H h2 J f=>by
  rcases U i f with y|y|⟨d,hd,y⟩
  ·subst y;rw[j.dev]at t;cases t;exact H _ rfl
  ·subst y;rw[j.row]at t;cases t;exact h2 _ rfl
  ·subst y
   obtain⟨s,hs⟩:=u d hd;rw[hs]at t;cases t;exact J _ rfl
 have C:∀i o,h.get i=some o->(∀l,o≠.cells l 152)->(∀l,o≠.vec l 220 1)->(∀l,o≠.cells l 277)->(∀l,o≠.cells l 149)->(∀l,o≠.map l)->¬(i=D\/i=M\/Azw V zl (g.D*g.Z).toNat z (fun _=>0) (fun _=>Zn.empty) i):=fun i o t H h2 J h4 W f=>by
  rcases f with y|y|y
  ·subst y;rw[d.Dc]at t;cases t;exact h4 _ rfl
  ·subst y;rw[d.marks]at t;cases t;exact W _ rfl
  ·exact kind i o t H h2 J y
 have n:∀i,Azw V zl (g.D*g.Z).toNat z (fun _=>0) (fun _=>Zn.empty) i->i<h.next/\h0.next<=i:=fun i f=>by
  rcases U i f with y|y|⟨d,hd,y⟩
  ·subst y;exact⟨hb _ _ j.dev,nd.2.1⟩
  ·subst y;exact⟨hb _ _ j.row,nd.2.2.1⟩
  ·subst y
   obtain⟨s,hs⟩:=u d hd;exact⟨hb _ _ hs,nd.2.2.2 d hd⟩
 have hS:g.S=((g.S.toNat:Nat):Int):=by omega
 have G:F0 h D (Mc.new (g.D*g.Z).toNat g.S.toNat g.O) (fun i=>i=D\/i=M\/Azw V zl (g.D*g.Z).toNat z (fun _=>0) (fun _=>Zn.empty) i):=by
  have X:∀size:Nat,0<size->Zn.empty.Wf size:=fun size hs=>⟨fun x P=>(by cases P),by show 0<=4;omega,aC _,cU _,fun _=>hs⟩
  have Y:Dv.Wf ⟨(g.D*g.Z).toNat,g.S.toNat,g.O,0,false,fun _=>Zn.empty⟩:=⟨by show g.S.toNat<=64;omega,by show(g.D*g.Z).toNat<=512;omega,fun i _=>X _ (by show 0<g.S.toNat;omega)⟩;refine⟨fun i f=>?_,⟨by show 0+0<=200;omega,fun e he=>(by cases he),fun e he=>(by cases he)⟩,V,M,0,0,.Ao,.Ao,[],_,d.Dc,d.marks,fun e he=>(by cases he),.nil _ _ _ _,.nil _ _ _ _,⟨Y,fun i f=>(n i f).1,zl,z,fun _=>0,?_,fun i f=>f⟩,⟨fun i f=>.inr (.inr f),.inl rfl,.inr (.inl rfl),fun y=>absurd y (bS _),fun y=>absurd y (bS _)⟩,⟨kind _ _ d.Dc (by intros;simp) (by intros;simp) (by intros;simp),kind _ _ d.marks (by intros;simp) (by intros;simp) (by intros;simp),fun y=>absurd y (bS _),fun y=>absurd y (bS _),fun y=>absurd y (bS _)⟩⟩
  ·rcases f with y|y|y
   ·subst y;exact hb _ _ d.Dc
   ·subst y;exact hb _ _ d.marks
   ·exact(n i y).1
  ·show L5 h V zl (g.D*g.Z).toNat z (fun _=>0) ((g.S.toNat:Nat):Int) g.O 0 false (fun _=>Zn.empty)
   rw[<-hS];exact j
 refine⟨⟨fun i f=>f.1,D,p,bl,ql,g.D.toNat,q,c,_,E,v,⟨rfl,s,fun d _=>cU _⟩,G,?_,?_⟩,fun i f=>aL f le,{ toWp:=⟨s,fun d _ x P=>by cases P⟩,op:=.inl ⟨rfl,rfl⟩ }⟩
 ·have k:=C
  exact⟨k _ _ E.Iv (by intros;simp) (by intros;simp) (by intros;simp) (by intros;simp) (by intros;simp),k _ _ E.Axd (by intros;simp) (by intros;simp) (by intros;simp) (by intros;simp) (by intros;simp),k _ _ v.Gw (by intros;simp) (by intros;simp) (by intros;simp) (by intros;simp) (by intros;simp),k _ _ v.row (by intros;simp) (by intros;simp) (by intros;simp) (by intros;simp) (by intros;simp),
   fun d hd=>⟨k _ _ (v.que d hd) (by intros;simp) (by intros;simp) (by intros;simp) (by intros;simp) (by intros;simp),k _ _ (v.chan d hd) (by intros;simp) (by intros;simp) (by intros;simp) (by intros;simp) (by intros;simp)⟩⟩
 ·refine⟨fun i f=>?_,⟨hb _ _ E.Iv,by omega⟩,⟨hb _ _ E.Axd,by omega⟩,⟨hb _ _ v.Gw,by omega⟩,⟨hb _ _ v.row,by omega⟩,fun d hd=>⟨⟨hb _ _ (v.que d hd),by have:=T.2.2.2 d hd;omega⟩,⟨hb _ _ (v.chan d hd),by have:=T.2.2.2 d hd;omega⟩⟩⟩
  rcases f with y|y|y
  ·subst y;exact⟨hb _ _ d.Dc,by omega⟩
  ·subst y;exact⟨hb _ _ d.marks,by omega⟩
  ·exact⟨(n i y).1,by have:=(n i y).2;omega⟩
section
noncomputable def Mi.A86(S:Mi)(z:Int):Mi:={ S with ps:=(Aq2 S.g S.g.D.toNat S.ps z).2 }
theorem Mi.Wf.A86(w:S.Wf){z:Int}(a:0<=Ej S.g z->¬S.bad z.toNat=1):(S.A86 z).Wf:={ toWp:=⟨w.sm,A1o w.ps _ _ a⟩,op:=w.op }
section
variable(M:Da h m S F)(hb:HB h)
include M
theorem Nj(hb:HB h):Ok (Bz K (.ptr m 0) h) fun v h'=>v=gV S.g/\Ext h h':=by
 obtain⟨_,D,p,bl,ql,np,q,c,G,a⟩:=M.s;exact Ayw a.Iv hb
theorem Av6:Hj K (.ptr m 0) h=some (.tuple [I S.a,I S.b,I S.u],h):=by
 obtain⟨_,D,p,bl,ql,np,q,c,G,a⟩:=M.s;exact Aya a.Iv
include hb
theorem A6s(A:Ca disp)(hK:10000<K):∃p,Bw K (.ptr m 0) h=some (.ptr p 0,h)/\∀{d:Nat},8<=d->∀{z:Int},Tk z->(0<=Ej S.g z->¬S.bad z.toNat=1) ->
 Ok (Ag TT disp K d false 67 [.ptr p 0,I z] h) fun v h'=>v=I (Aq2 S.g S.g.D.toNat S.ps z).1/\Da h' m (S.A86 z) F/\Kf F h h'/\HB h':=by
 obtain⟨lt,D,p,bl,ql,np,q,c,G,a⟩:=M.s;refine⟨p,Se a.Iv,fun {d} hd {z} j k=>?_⟩;have b:=a.psz.nd;subst b;refine(Bbg (K:=K) A a.Gw hb a.psz (by omega) hd z j).mono ?_;rintro v h' ⟨c3,f,rfl,n,o⟩;obtain⟨a3,cH⟩:=a.Api hb n o c3;obtain⟨t,u⟩:=M.made (Rw.mono (H:=Out F h) ⟨fun i y=>aL y.1 cH.next,D,p,bl,ql,_,q,c,G,a3⟩ (fun _=>.inl) (Bh.lt lt cH.next)) cH (M.wf.A86 k);exact⟨rfl,t,u,f⟩
end
end
theorem Lq.Bk(w:e.Wf):e.cells.length=68:=by
 unfold Lq.cells;rw[aF,w.len];rfl
theorem A5z(e:Lq):Ok (Tf K (.agg e.cells) h) fun v h'=>(∃b:Bool,v=.bool b)/\Ext h h':=by
 simp only[Tf,Aa];have a:Ext h (h.new (.cells e.cells 32)):=Ar.new _ _;have f:(h.new (.cells e.cells 32)).get h.next=some (.cells e.cells 32):=Ac _ _
 generalize h.new (.cells e.cells 32)=g at a f⊢;rw[Aj f rfl (v:=I e.N8) rfl];simp only[I,Ad];by_cases g:e.N8≥0
 ·simp only[g,aB,Aa]
  rw[Aj f rfl (v:=I e.kind) rfl];simp only[I,Ad,Uc];by_cases h2:e.kind≥1
  ·simp only[h2,aB,Aa,Ad]
   rw[Aj f rfl (v:=I e.kind) rfl];simp only[I,Ad,Oo,Aa];exact .ret ⟨⟨_,rfl⟩,a⟩
  ·simp only[h2,aA,Aa,Ad,Oo]
   exact .ret ⟨⟨_,rfl⟩,a⟩
 ·simp only[g,aA,Aa,Ad,Uc,Oo]
  exact .ret ⟨⟨_,rfl⟩,a⟩
theorem A4t(hw:∀e∈L,e.Wf):∀x∈L.map Lq.cells,x.length=68:=fun x a=>by
 obtain⟨e,he,rfl⟩:=cJ.1 a;exact Lq.Bk (hw e he)
theorem Bpn(hw:∀e∈L,e.Wf){j:Nat}(hj:j<L.length):(L.map Lq.cells).flatten[j*68]? = some (I L[j].N8):=by
 obtain⟨e,a,h2⟩:=Asz (n:=68) (A4t hw) (j:=j) (by rw[bU];exact hj);rw[e,br,bY (by omega),a,fH,List.getElem_map,bh (by rw[Lq.Bk (hw _ (bF hj))];omega)];rfl
theorem Bkr(hw:∀e∈L,e.Wf)(a:i<=L.length):(L.map Lq.cells).flatten.take (i*68)=((L.take i).map Lq.cells).flatten/\(L.map Lq.cells).flatten.drop (i*68)=((L.drop i).map Lq.cells).flatten:=by
 have e:(L.map Lq.cells).flatten=((L.take i).map Lq.cells).flatten++((L.drop i).map Lq.cells).flatten:=by
  rw[<-cy,<-cB,List.take_append_drop]
 have b:((L.take i).map Lq.cells).flatten.length=i*68:=by
  rw[Ad9 (n:=68) _ (A4t fun e he=>hw e (bO he)),bU,bJ,dR a]
 rw[e,<-b,dI,dE];exact⟨rfl,rfl⟩
theorem Blz{s:EV}{q j:Nat}(row:Ci h s q 32 68 L.length (L.map Lq.cells).flatten)(hw:∀e∈L,e.Wf)(w:e.Wf)(hj:h.get j=some (.cells e.cells 32))(g:i<=L.length)(o:L.length<=1000):
 ∃h',Bc4 s (i:Int) j h=some (.slice h.next 0 (L.length+1) (L.length+1) true,h')/\Ci h' (.slice h.next 0 (L.length+1) (L.length+1) true) h.next 32 68 (L.length+1) ((L.take i++[e]++L.drop i).map Lq.cells).flatten/\h'.next=h.next+1/\Ar (fun k=>0<L.length/\k=q) h h':=by
 have el:=Lq.Bk w;have fl:((L.take i++[e]++L.drop i).map Lq.cells).flatten=((L.take i).map Lq.cells).flatten++e.cells++((L.drop i).map Lq.cells).flatten:=by
  simp only[cB,cy,dB,List.map_nil,bm,List.flatten_nil,cR]
 have hlen:((L.take i++[e]++L.drop i).map Lq.cells).flatten.length=(L.length+1)*68:=by
  rw[Ad9 (n:=68) _ (A4t fun x a=>?_)]
  ·rw[bU];simp only[aF,bJ,ak,List.length_singleton];omega
  ·rcases bL.1 a with a|a
   ·rcases bL.1 a with a|a
    ·exact hw x (bO a)
    ·rw[aO.1 a];exact w
   ·exact hw x (aM a)
 have nil:L.length=0->((L.take i++[e]++L.drop i).map Lq.cells).flatten=e.cells/\i=0:=fun h0=>by
  have:=bW.1 h0;subst this;obtain rfl:i=0:=by simpa using g
  exact⟨by simp,rfl⟩
 rcases row with⟨h0,_,hs⟩|⟨p,rfl,t,f⟩
 ·obtain⟨u,rfl⟩:=nil h0
  have res:Bc4 s ((0:Nat):Int) j h=some (.slice h.next 0 1 1 true,h.new (.vec e.cells 32 68)):=by
   unfold Bc4;rw[hj];rcases hs with rfl|⟨b,rfl⟩
   ·simp[el]
   ·simp[el]
  refine⟨_,by rw[h0];exact res,.inr ⟨by omega,rfl,?_,hlen⟩,rfl,Ar.new _ _⟩;rw[u];exact Ac _ _
 ·obtain⟨t1,t2⟩:=Bkr hw g
  refine⟨(h.del q).new (.vec (((L.take i++[e]++L.drop i).map Lq.cells).flatten) 32 68),?_,.inr ⟨by omega,rfl,?_,hlen⟩,rfl,(Ar.del h (.inl ⟨p,rfl⟩)).trans (Ar.new _ _)⟩
  ·unfold Bc4
   rw[hj];simp only[el,fS,t];rw[aN (by omega),aN ⟨f,by omega,o⟩,bK,t1,t2,fl]
  ·rw[show h.next=(h.del q).next from rfl,Ac]
theorem Bc6 {c r:Ai}{V M qc v3:Nat}{cs hs:EV}(hd:h.get D=some (.cells [.ptr V 0,cs,hs,.map M] 149))(row:Ci h cs qc 32 68 L.length (L.map Lq.cells).flatten)(hw:∀e∈L,e.Wf)(g:h.get v3=some (.cells e.cells 32))(o:L.length<=1000)
 (a:∀i:Nat,i<=L.length->Ok (U7 c r K (.ptr D 0) (.ptr v3 0) (I i) h) Q):∀(f i:Nat),i<f->i<=L.length->Ok (Jf c r K f (.ptr D 0) (.ptr v3 0) (I i) h) Q:=by
 intro f;induction f with
 | zero=>intro i k;omega
 | succ f ih=>
  intro i k n;rw[Jf];simp only[I,Ad];by_cases h0:i=0
  ·subst h0
   simp only[show decide (((0:Nat):Int)>0)=false from rfl,Aa,Ad,Pn];exact a 0 (by omega)
  ·have e3:decide ((i:Int)>0)=true:=by simp;omega
   simp only[e3,Aa];rw[Aj hd rfl (v:=cs) rfl]
   try simp only[Ad]
   rw[Cn (by omega) (by omega),show(i:Int)-1=((i-1:Nat):Int) by omega,row.ix (by omega)];simp only[Aa,dC];rw[Aj (row.block (by omega)) rfl (Bpn hw (j:=i-1) (by omega)),Aj g rfl (v:=I e.N8) rfl];simp only[I,Ad,Pn,Aa];by_cases b:L[i-1].N8>e.N8
   ·simp only[b,aB,Aa,Ad,Aep]
    rw[Cn (by omega) (by omega),show(i:Int)-1=((i-1:Nat):Int) by omega];exact ih (i-1) (by omega) (by omega)
   ·simp only[b,aA,Aa,Ad]
    exact a i n
theorem A54(A:Ca disp)(af:disp 105=some A55)(hK:10000<K)(hd:2<=d){S:Mc}{G:Nat->Prop}(s:F0 h D S G)(hb:HB h)(w:e.Wf)(hl:S.ev.length+S.P8.length<=199):
 Ok (Ag TT disp K d false 46 [.ptr D 0,.agg e.cells] h) fun _ h'=>∃l:List Lq,l.length<=S.ev.length+1/\F0 h' D { S with ev:=l } (Bh G h h')/\Ar G h h'/\HB h':=by
 obtain⟨e',rfl⟩:∃k,d=k+2:=⟨d-2,by omega⟩;rw[Ap5 A (by omega)];have el:=Lq.Bk w;simp only[Amc,Aa];have x1:Ext h (h.new (.cells e.cells 32)):=Ar.new _ _;have g1:(h.new (.cells e.cells 32)).get h.next=some (.cells e.cells 32):=Ac _ _
 generalize h.new (.cells e.cells 32)=h1 at x1 g1⊢;have O:=x1.hb hb;rw[Dj g1 rfl (Am el)]
 try simp only[Aa]
 refine(A5z (K:=K) e).Ap ?_;rintro _ h2 ⟨⟨bb,rfl⟩,x2⟩;have a:=x2.hb O;have q:Ext h h2:=x1.trans x2;have s2:=s.ext q;have no:∀v,Ok (some (v,h2)) fun _ h'=>∃l:List Lq,l.length<=S.ev.length+1/\F0 h' D { S with ev:=l } (Bh G h h')/\Ar G h h'/\HB h':=fun v=>
  .ret ⟨S.ev,Nat.le_succ _,s2.grow s.lt q.next,Ext.to q,a⟩
 cases bb with
 | false=>
  simp only[Aa,Ad];exact no _
 | true=>
  obtain⟨V,M,qc,qh,cs,hs,ms,F,b⟩:=s2.N8;have g3:=x2.at O g1;have Z1:=s.wf;simp only[Aa,Ad];rw[Aj b.Dc rfl (v:=cs) rfl,b.Gt.Hz];simp only[Ad];have e5:decide ((S.ev.length:Int)≥256)=false:=by simp;omega
  simp only[e5,Aa,Ael];rw[Aj b.Dc rfl (v:=cs) rfl,b.Gt.Hz];refine Bc6 (K:=K) b.Dc b.Gt Z1.wf g3 (by omega) ?_ K S.ev.length (by omega) (aC _);intro i hi;simp only[U7,Aa,Aw];have lD:=a _ _ b.Dc;have l3:=a _ _ g3;rw[Ah lD (by kernel_rfl),Aj b.Dc rfl (v:=cs) rfl]
  try simp only[Aa,Aw]
  rw[Ah l3 (by kernel_rfl),Dj g3 rfl (Am el)]
  try simp only[Aa,Aw]
  rw[V8 (v:=.agg e.cells) rfl (by simp) (show((EV.agg e.cells).cells).length=68 from el) (by omega),Au];have J:Ext h2 (h2.new (.cells (EV.agg e.cells).cells 32)):=Ar.new _ _;have g6:(h2.new (.cells (EV.agg e.cells).cells 32)).get h2.next=some (.cells e.cells 32):=Ac _ _
  have n6:(h2.new (.cells (EV.agg e.cells).cells 32)).next=h2.next+1:=rfl
  generalize (h2.new (.cells (EV.agg e.cells).cells 32))=f at J g6 n6⊢;have T:=J.hb a;have U:=b.Gt.frame (h':=f.lift) fun y=>by rw[By];exact J.get _ (a _ _ (b.Gt.block y)) id
  obtain⟨W,e7,X,n7,c7⟩:=Blz (i:=i) U Z1.wf w (by rw[By];exact g6) hi (by omega);have call:Ag TT disp K (e'+1) false 105 [cs,I i,.slice h2.next 0 1 1 false] f.lift=some (.slice f.lift.next 0 (S.ev.length+1) (S.ev.length+1) true,W):=by
   rw[Atk af];exact e7
  refine Ok.Yh (S:=fun k=>0<S.ev.length/\k=qc) (by kernel_rfl) (by kernel_rfl) (fun _=>by kernel_rfl) (P:=fun v h'=>v=.slice f.lift.next 0 (S.ev.length+1) (S.ev.length+1) true/\h'=W) ⟨_,_,call,rfl,rfl⟩ (fun _ _ p=>by rw[p.2];exact c7) ?_;rintro _ _ C s' ⟨rfl,rfl⟩ sm E ao;have H:=E.hb T;have X:=X.frame (h':=C) fun _=>sm.get _
  have aq:0<S.ev.length->D≠qc:=fun y e=>by
   have:=b.Gt.block y;rw[<-e,b.Dc]at this;cases this
  have gD:=E.at T (J.at a b.Dc) fun y=>aq y.1 y.2
  have au:=H _ _ gD
  try simp only[Aa,Aw]
  rw[Kh (by rcases ao with rfl|⟨w,rfl,_⟩<;>kernel_rfl)];refine Ok.Zl gD rfl rfl (by show 1<4;decide) ?_;have l6:f.lift.next=f.next:=rfl
  rw[l6]at X n7;have bo:C.next=f.next+1:=by rw[sm.next,n7]
  have l7:=H _ _ (X.block (by omega));have Y:Ar (fun j=>j=D) C (C.put D (.cells ([EV.ptr V 0,cs,hs,.map M].set 1 (.slice f.lift.next 0 (S.ev.length+1) (S.ev.length+1) true)) 149)):=(Ar.refl (S:=fun j=>j=D) C).Ak (.inl rfl) au _;have Z:(C.put D (.cells ([EV.ptr V 0,cs,hs,.map M].set 1 (.slice f.lift.next 0 (S.ev.length+1) (S.ev.length+1) true)) 149)).get D=some (.cells [.ptr V 0,.slice f.next 0 (S.ev.length+1) (S.ev.length+1) true,hs,.map M] 149):=Ae _ _ _;have aa:=Y.hb H;generalize C.put D _=h8 at Y Z aa⊢;have t:Ar (fun k=>k=D\/(0<S.ev.length/\k=qc)) h2 h8:=((Ext.to J).trans (E.mono fun k n=>.inr n)).trans (Y.mono fun k n=>.inl n);have t1:=q.next
  have t2:=J.next
  have t3:=t.next
  have ab:Ar G h h8:=q.to.then t fun k n hl=>by
   rcases n with rfl|⟨y,rfl⟩
   ·exact b.sub.2.1
   ·exact b.sub.2.2.2.1 y
  have B:∀k o,h2.get k=some o->k≠D->(0<S.ev.length->k≠qc)->h8.get k=some o:=fun k o g n1 n2=>t.at a g fun y=>y.elim n1 fun z=>n2 z.1 z.2
  have ad:(S.ev.take i++[e]++S.ev.drop i).length=S.ev.length+1:=by
   simp only[aF,bJ,ak,List.length_singleton];omega
  have aw:¬f.next=D:=by omega
  have Gl:∀k,G k->k<f.next:=fun k n=>by have:=s.lt k n;omega
  refine .ret ⟨S.ev.take i++[e]++S.ev.drop i,by omega,⟨Bh.lt s.lt ab.next,⟨by show(S.ev.take i++[e]++S.ev.drop i).length+S.P8.length<=200;omega,fun x u=>?_,Z1.Z1⟩,V,M,f.next,qh,.slice f.next 0 (S.ev.length+1) (S.ev.length+1) true,hs,ms,F,?_⟩,ab,aa⟩
  ·rcases bL.1 u with u|u
   ·rcases bL.1 u with u|u
    ·exact Z1.wf x (bO u)
    ·rw[aO.1 u];exact w
   ·exact Z1.wf x (aM u)
  ·refine⟨Z,?_,b.marks,?_,?_,?_,⟨fun k n=>.inl (b.sub.1 k n),.inl b.sub.2.1,.inl b.sub.2.2.1,fun _=>.inr ⟨by omega,by have:=Y.next;omega⟩,fun y=>.inl (b.sub.2.2.2.2 y)⟩,⟨b.apart.1,b.apart.2.1,fun _ y=>by have:=Gl _ (b.sub.1 _ y);omega,b.apart.2.2.2.1,fun _ y=>by have:=Gl _ (b.sub.2.2.2.2 y);omega⟩⟩
   ·refine B _ _ b.map (fun y=>?_) fun y z=>?_
    ·rw[y]at b;have:=b.map;rw[b.Dc]at this;cases this
    ·have h1:=b.Gt.block y;rw[<-z,b.map]at h1;cases h1
   ·show Ci h8 _ f.next 32 68 (S.ev.take i++[e]++S.ev.drop i).length _
    rw[ad];exact X.frame fun _=>Y.get _ l7 aw
   ·refine b.An7.frame fun y=>?_
    have g:=b.An7.block y;rw[B _ _ g (fun z=>?_) fun z1 z2=>b.apart.2.2.2.2 z1 y z2.symm,g];rw[z,b.Dc]at g;cases g
   ·refine b.dev.frame t.next fun k n=>t.get k (b.dev.lt k n) fun z=>?_
    rcases z with rfl|⟨z1,rfl⟩
    ·exact b.apart.1 n
    ·exact b.apart.2.2.1 z1 n
end Go.Ev
