import Derived.Test.YtadnemjjlacolaaGreatVa
set_option linter.all false
namespace Go.Ev
open Go.Proofs
set_option maxRecDepth 100000
variable {x:Me}{h:Ab}{K d i m:Nat}{S:Mi}{F:Nat->Prop}{ih:EV->EV->EV->EV->EV->EV->EV->EV->Ab->R}{Q:EV->Ab->Prop}{Ap mt off:Int}{g:Gm}{D:Dv}{e:En}{disp:Nat->Option FT}
def Bvv:EV->Nat
 | .int _ n=>n.toNat
 | _=>0
def An8(x:List EV):List Nat:=x.map Bvv
theorem Aww(l:List Nat):An8 (Bh l)=l:=by
 unfold An8 Bh;rw[List.map_map];exact(cj (fun a _=>rfl)).trans (List.map_id l)
theorem U8.Bwi {x:List EV}(u:U8 x):Bh (An8 x)=x/\∀b∈An8 x,b<256:=by
 obtain⟨l,h,rfl⟩:=u;rw[Aww];exact⟨rfl,h⟩
theorem Bgj(x:List EV):(An8 x).length=x.length:=bX ..
theorem Am8{t n:Nat}{l:List EV}{v w:EV}(a:h.get i=some (.cells l t))(hs:TT.size t=some n)(b:TT.agg t=some true)(f:l.length=n):Ji TT [.c (.ptr i 0) t,.v v,.v w] h=some (.tuple [.agg l,v,w],h):=by
 have j:K0 h i 0 n=some l:=by
  unfold K0;rw[a];simp only;rw[<-Aly];exact Ai f
 unfold Ji;simp only[A22,hs,j,b]
noncomputable def Ayi(s:List Nat)(x:Me)(Aj Ba:Int):Bool × List Nat:=
 if(atF s Aj x.off).2=0/\¬(atF s Aj x.off).1.kind=2/\(atF s Aj x.off).1.seq=x.seq/\(Aae (atF s Aj x.off).1).2=0/\(Aae (atF s Aj x.off).1).1.Ba=Ba/\((Ga (Aae (atF s Aj x.off).1).1.bytes:Nat):Int)=x.sum
 then(true,(Aae (atF s Aj x.off).1).1.bytes)else(false,Dp)
noncomputable def Mi.Dy(S:Mi)(x:Me)(Aj Ba:Int):Mi × List Nat × Bool × Int:=
 if(S.dr.read Aj x.off).2.2=0 then({ S with dr:=(S.dr.read Aj x.off).1 },(Ayi (An8 (S.dr.read Aj x.off).2.1) x Aj Ba).2,(Ayi (An8 (S.dr.read Aj x.off).2.1) x Aj Ba).1,0)else
 if(S.dr.read Aj x.off).2.2=34 then({ S with dr:=(S.dr.read Aj x.off).1 },Dp,false,34)else
 if(S.dr.read Aj x.off).2.2=32 then((({ S with dr:=(S.dr.read Aj x.off).1 }:Mi).Cl Aj).1,Dp,false,if(({ S with dr:=(S.dr.read Aj x.off).1 }:Mi).Cl Aj).2=34 then 34 else 0)else
 ({ S with dr:=(S.dr.read Aj x.off).1 },Dp,false,0)
theorem Bop(A:Bj disp)(hK:10000<K)(hd:19<=d)(M:Dd h m S F)(hb:HB h){z:Int}(j:Rng z):
 Ok (Ae TT disp K d false 107 [.ptr m 0,I z] h) fun v h'=>v=I (if(S.Cl z).2=34 then 34 else 0)/\Dd h' m (S.Cl z).1 F/\Kf F h h'/\HB h':=by
 obtain⟨e,rfl⟩:∃k,d=k+1:=⟨d-1,by omega⟩;rw[Aqt A (by omega)];simp only[Akg,dr];refine(Atx A hK M hb (by omega) j).An ?_;rintro _ n ⟨rfl,b,f,a⟩;simp only[I,Ac,Adu];by_cases h0:(S.Cl z).2=34
 ·simp only[h0,aB,Aa,bM]
  exact .ret ⟨rfl,b,f,a⟩
 ·simp only[h0,aA,Aa,bD]
  exact .ret ⟨rfl,b,f,a⟩
theorem Avv:TT.size 49=some 32/\TT.agg 49=some true:=⟨by kernel_rfl,by kernel_rfl⟩
theorem Afo:Dp.length=32:=rfl
theorem Bdk {f:Fr}(w:f.Wf):(Aae f).1.Wf:=by
 unfold Aae;split
 ·exact En.Ie
 ·split
  ·exact En.Ie
  ·exact Bne w.len w.u8
theorem Bm0 {s:List Nat}(a:s.length=64)(hu:∀b∈s,b<256)(x:Me)(Aj Ba:Int)(w:(atF s Aj x.off).1.Wf):(Ayi s x Aj Ba).2.length=32/\∀b∈(Ayi s x Aj Ba).2,b<256:=by
 unfold Ayi;split
 ·exact⟨(Bdk w).len,(Bdk w).u8⟩
 ·exact⟨rfl,fun b hb=>by rw[bP hb];decide⟩
theorem Bb2(A:Bj disp)(hK:10000<K)(hd:20<=d)(M:Dd h m S F)(hb:HB h)(x:Me){Aj:Int}(hz:Rng Aj)(Ba:Int):
 Ok (Ae TT disp K d false 66 [.ptr m 0,.agg x.cells,I Aj,I Ba] h) fun v h'=>v=.tuple [.agg (Bh (S.Dy x Aj Ba).2.1),.bool (S.Dy x Aj Ba).2.2.1,I (S.Dy x Aj Ba).2.2.2]/\(S.Dy x Aj Ba).2.1.length=32/\(∀b∈(S.Dy x Aj Ba).2.1,b<256)/\Dd h' m (S.Dy x Aj Ba).1 F/\Kf F h h'/\HB h':=by
 obtain⟨dd,rfl⟩:∃k,d=k+1:=⟨d-1,by omega⟩;rw[Aqp A (by omega)];simp only[Ajg,Aa];rw[show(h.new (.cells x.cells 47)).next=h.next+1 from rfl,Io];have x1:Ext h ((h.new (.cells x.cells 47)).new (.cells (Bh Dp) 49)):=(Av.new _ _).Ds _;have g5:((h.new (.cells x.cells 47)).new (.cells (Bh Dp) 49)).get h.next=some (.cells x.cells 47):=by
  rw[Az _ (aL _)];exact Ad _ _
 have B:((h.new (.cells x.cells 47)).new (.cells (Bh Dp) 49)).get (h.next+1)=some (.cells (Bh Dp) 49):=Ad _ _;have n1:((h.new (.cells x.cells 47)).new (.cells (Bh Dp) 49)).next=h.next+2:=rfl
 generalize (h.new (.cells x.cells 47)).new (.cells (Bh Dp) 49)=W at x1 g5 B n1⊢;have L:=x1.hb hb;have M1:=M.ext hb x1;obtain⟨_,D,p,bl,ql,np,q,c,G,a⟩:=M1.s;have lm:=L _ _ a.Kk.Kk;have l5:=L _ _ g5;have F5:Bg F h W h.next:=.inr ⟨aE _,by omega⟩
 have F8:Bg F h W (h.next+1):=.inr ⟨by omega,by omega⟩;rw[Ku lm,a.Kk.Eb]
 try simp only[Aa,Aw]
 rw[Ku l5,Al g5 rfl (v:=I x.off) rfl]
 try simp only[Aa,Aw]
 refine Ok.bC (S:=G) (Bd9 (K:=K) A (d:=dd) (by omega) (fun k hk=>Bar A (by omega) S.dr k hk) a.drv.lift (D4 L) Aj x.off) (fun _ _ p=>p.2.2.2.1) ?_;rintro _ h2 h3 s' ⟨rfl,hlen,d2,_,bf⟩ sm c3 bj;have X:=sm.hb bf;have bk:U8 (S.dr.read Aj x.off).2.1:=by
  obtain⟨V,M',qc,qh,cs,hs,ms,F',a'⟩:=d2.Qu;have w:=a'.dev.wf;have wz:∀i,i<(S.dr.begin Aj).dv.n->((S.dr.begin Aj).dv.zs i).Wf (S.dr.begin Aj).dv.size:=by
   have e1:(S.dr.read Aj x.off).1.dv=(S.dr.begin Aj).dv.begin Aj:=rfl;rw[e1]at w;unfold Dv.begin at w;split at w
   ·exact w.zs
   ·exact w.zs
  show U8 (Dv.read _ Aj x.off).1;unfold Dv.read;split
  ·exact U8.zs
  ·rename_i bn
   obtain⟨j,rfl,hj⟩:=Dv.Bam (show(S.dr.begin Aj).dv.Fs Aj=0 by
    rcases Decidable.em ((S.dr.begin Aj).dv.Fs Aj=0)with y|y
    ·exact y
    ·exact absurd y bn)
   unfold Ak4;split
   ·exact U8.zs
   ·split
    ·rename_i hc
     have:x.off.toNat<((S.dr.begin (j:Int)).dv.zs j).l.length:=by
      have:=hc.2;rw[aZ]at this;omega
     rw[aZ,aC this];exact(wz j hj).u8 _ (av _)
    ·exact U8.zs
 obtain⟨M3,k3⟩:=M1.drv L a (d2.same sm) c3;have g5:=k3.at L g5 F5;have B:=k3.at L B F8;obtain⟨hs,U⟩:=bk.Bwi;have H:(An8 (S.dr.read Aj x.off).2.1).length=64:=by rw[Bgj,hlen]
 unfold Mi.Dy;rw[<-hs];generalize hR:S.dr.read Aj x.off=R at M3 hs U H⊢;obtain⟨dr,sec,er⟩:=R;simp only at M3 hs U H⊢;rw[Aww];generalize An8 sec=s at hs U H⊢;simp only[Aa,Aw];rw[Lf (by rcases bj with rfl|⟨w,rfl,_⟩<;>kernel_rfl)];have ul:(Bh s).length=64:=by rw[Be,H]
 refine Ok.st (Bh s) (Ad _ _) rfl (by show Gk (Bh s)=64;rw[Bc,ul]) (Bm (by rw[bQ];exact ul.symm)) ?_;obtain⟨h4,e_,x4,al,_⟩:=nP h3 (.cells (List.replicate 64 (EV.int .u8 0)) 30) (.cells (Bh s) 30);rw[e_];have o:=x4.hb X;have g5:=x4.at X g5;have B:=x4.at X B;have M4:=(M3.ext X x4).less fun i (O:Bg F h W i)=>Or.inl O
 have Y:Kf F h h4:=(x1.Axz k3).trans x4.kf;have ln:h.next+2<=h4.next:=by have:=x4.next;have:=k3.next;omega
 have sub:∀i,F i->Bg F h W i:=fun i O=>.inl O
 have fin:∀(l:List Nat) (ok:Bool) (er:Int) (t:Ab) (S5:Mi),l.length=32->(∀b∈l,b<256)->Dd t m S5 (Bg F h W)->Kf F h t->HB t->t.get (h.next+1)=some (.cells (Bh Dp) 49) ->
  Ok (stE 32 (.ptr (h.next+1) 0) (.agg (Bh l)) t fun h'=>Ji TT [.c (.ptr (h.next+1) 0) 49,.v (.bool ok),.v (I er)] h') fun v h'=>v=.tuple [.agg (Bh l),.bool ok,I er]/\l.length=32/\(∀b∈l,b<256)/\Dd h' m S5 F/\Kf F h h'/\HB h':=by
  intro l ok er t S5 hl bp M5 k5 E Z;have ul:(Bh l).length=32:=by rw[Be,hl]
  have l8:=E _ _ Z;refine Ok.st (Bh l) Z rfl (by show Gk (Bh l)=32;rw[Bc,ul]) (Bm (by show(Bh Dp).length=(Bh l).length;rw[ul,Be,Afo])) ?_;rw[Am8 (Af _ _ _) Avv.1 Avv.2 ul];have nF:¬F (h.next+1):=fun y=>by have:=M.lt _ y;omega
  have c8:Av (fun i=>i=h.next+1) t (t.put (h.next+1) (.cells (Bh l) 49)):=(Av.refl (S:=fun i=>i=h.next+1) t).Ar (.inl rfl) l8 _;exact .ret ⟨rfl,hl,bp,(M5.Ag7 c8 fun i O _=>O▸F8).less sub,k5.trans (c8.mono fun i O y=>nF (O▸y)),E.put l8 _⟩
 have no:∀(er:Int) (t:Ab) (S5:Mi),Dd t m S5 (Bg F h W)->Kf F h t->HB t->t.get (h.next+1)=some (.cells (Bh Dp) 49) ->
  Ok (Bv (Mv 1) (List.replicate 32 (EV.int .u8 0)) [] fun v=>stE 32 (.ptr (h.next+1) 0) v t fun h'=>Ji TT [.c (.ptr (h.next+1) 0) 49,.v (.bool false),.v (I er)] h') fun v h'=>v=.tuple [.agg (Bh Dp),.bool false,I er]/\Dp.length=32/\(∀b∈Dp,b<256)/\Dd h' m S5 F/\Kf F h h'/\HB h':=fun er t S5 M5 k5 E Z=>by
  rw[Io,Ay (l:=Bh Dp) rfl];exact fin Dp false er t S5 rfl (fun b hb=>by rw[bP hb];decide) M5 k5 E Z
 simp only[I,Ac];by_cases h0:er=0
 ·rw[aG h0]
  simp only[h0,aB,Aa,Aec];have bt:=o _ _ al;have bu:=o _ _ g5;obtain⟨_,D,p,bl,ql,np,q,c,G,a⟩:=M4.s;have bw:=o _ _ a.Kk.Kk
  try simp only[Aw]
  rw[Ku bw,a.Kk.table]
  try simp only[Aa,Aw]
  rw[Ku bt,Db al rfl,Ai ul]
  try simp only[Aa,Aw]
  rw[Ku bu,Al g5 rfl (v:=I x.off) rfl]
  try simp only[Aa,Aw]
  refine Ok.bE (Bdv (K:=K) H U (D4 o) hK Aj x.off) (fun _ _ p=>p.2.2) ?_;rintro _ du t ⟨rfl,fw,_⟩ _ x5;have gw:=Bm0 H U x Aj Ba fw;have C:Ayi s x Aj Ba=if(atF s Aj x.off).2=0/\¬(atF s Aj x.off).1.kind=2/\(atF s Aj x.off).1.seq=x.seq/\(Aae (atF s Aj x.off).1).2=0/\(Aae (atF s Aj x.off).1).1.Ba=Ba/\((Ga (Aae (atF s Aj x.off).1).1.bytes:Nat):Int)=x.sum
   then(true,(Aae (atF s Aj x.off).1).1.bytes)else(false,Dp):=rfl
  generalize Ayi s x Aj Ba=gd at C gw⊢;generalize atF s Aj x.off=Qu at fw C⊢;obtain⟨f,bx⟩:=Qu;simp only at fw C⊢;have E:=x5.hb o;have fl:=Fr.Br fw;have zl:=Fr.Br Fr.Ie;simp only[Aa,Axp,Aw];rw[Lf];refine Ok.st f.cells (Ad _ _) rfl (by show Gk f.cells=49;rw[Bc,fl]) (Bm (by rw[zl];exact fl.symm)) ?_;obtain⟨h6,e_,x6,aa,_⟩:=nP t (.cells Fr.zero.cells 167) (.cells f.cells 167);rw[e_];have P:=x6.hb E;have ab:Ext h4 h6:=x5.trans x6;have g5:=ab.at o g5;have B:=ab.at o B;have M6:=(M4.ext o ab).less fun i (O:Bg F h W i)=>Or.inl O
  have aw:Kf F h h6:=Y.trans ab.kf;have stop:=no 0 h6 _ M6 aw P B;have l0:f.cells[0]? = some (I f.kind):=rfl;have l4:f.cells[4]? = some (I f.seq):=rfl;simp only[I,Ac]at stop⊢;by_cases c1:bx=0
  ·by_cases c2:f.kind=2
   ·rw[aF (by rintro⟨_,y,_⟩;exact y c2)]at C;subst C
    simp only[c1,aD,aA,Aa,C8 aa rfl,l0,I,Ac,c2,aB,Kt,Kv];exact stop
   ·by_cases c3:f.seq=x.seq
    ·simp only[c1,aD,aA,Aa,C8 aa rfl,l0,I,Ac,c2,Kt,l4,Kv]
     rw[Al g5 rfl (v:=I x.seq) rfl];simp only[I,Ac,c3,aD,aA,Aa,Adv];rw[Db aa rfl,Ai fl]
     try simp only[Aa]
     refine(A6u (K:=K) fw P hK).An ?_;rintro _ h7 ⟨rfl,J,x7⟩;generalize Aae f=re at J C⊢;obtain⟨e,bz⟩:=re;simp only at J C⊢;have b5:=x7.hb P;have el:=En.Br J;have b6:=En.Br En.Ie;simp only[Aa];rw[En.Js];refine Ok.st e.cells (Ad _ _) rfl (by show Gk e.cells=38;rw[Bc,el]) (Bm (by rw[b6];exact el.symm)) ?_;obtain⟨h8,e_,x8,T,_⟩:=nP h7 (.cells En.zero.cells 131) (.cells e.cells 131);rw[e_];have u:=x8.hb b5;have ad:Ext h6 h8:=x7.trans x8;have g5:=ad.at P g5;have B:=ad.at P B;have M8:=(M6.ext P ad).less fun i (O:Bg F h W i)=>Or.inl O
     have ay:Kf F h h8:=aw.trans ad.kf;have stop:=no 0 h8 _ M8 ay u B;have ca:=u _ _ T;have cc:=u _ _ g5;simp only[I,Ac]at stop⊢;by_cases c4:bz=0
     ·simp only[c4,aD,aA,Aa,Aw]
      rw[Ku ca,Al T rfl (v:=I e.Ba) rfl];simp only[I,Ac];by_cases c5:e.Ba=Ba
      ·simp only[c5,aD,aA,Kw,Aa,Aw]
       obtain⟨_,D,p,bl,ql,np,q,c,G,a⟩:=M8.s;have cf:=u _ _ a.Kk.Kk;rw[Ku cf,a.Kk.table]
       try simp only[Aa,Aw]
       rw[show ∀k:EV->R,Uk 32 1 (.ptr h7.next 6) none none none k=k (.slice h7.next 6 32 32 false)from fun k=>rfl]
       try simp only[Aa,Aw]
       have bs:Bs h8.lift (.slice h7.next 6 32 32 false) h7.next 6 e.bytes:=by
        refine⟨32,false,_,e.cells,by rw[J.len],by rw[J.len];omega,by rw[Ci];exact T,rfl,by rw[el,J.len];exact aE _,?_⟩;unfold En.cells;rw[J.len];show(Bh e.bytes).take 32=_;rw[bR (by rw[Be,J.len];omega)]
       refine Ok.bE (A9c (K:=K) hK bs (D4 u) J.u8 (by rw[J.len];omega)) (fun _ _ p=>p.2) ?_;rintro _ dy h9 ⟨rfl,_⟩ _ x9;have az:=x9.hb u;have g5:=x9.at u g5;have B:=x9.at u B;have T:=x9.at u T;have M9:=(M8.ext u x9).less fun i (O:Bg F h W i)=>Or.inl O
       have a0:Kf F h h9:=ay.trans x9.kf;have stop:=no 0 h9 _ M9 a0 az B;have H:=A80 J.u8;simp only[Nk,Aa,Aw];rw[show Dz .i64 (Int.ofNat (Ga e.bytes))=(Ga e.bytes:Int)from Cj (by show -9223372036854775808<=((Ga e.bytes:Nat):Int);omega) (by show((Ga e.bytes:Nat):Int)<=_;omega)];rw[Ku cc,Al g5 rfl (v:=I x.sum) rfl];simp only[I,Ac]at stop⊢;by_cases c6:((Ga e.bytes:Nat):Int)=x.sum
       ·rw[aG ⟨c1,c2,c3,c4,c5,c6⟩]at C;subst C
        simp only[c6,aD,aA,H2,Aa,Aeb];rw[Db T rfl,show Oy e.cells (0+6) 32=some (Bh e.bytes)from by
         rw[Fw (by rw[el];omega)];show some ((Bh e.bytes).take 32)=_;rw[bR (by rw[Be,J.len];omega)]]
        try simp only[Aa]
        exact fin e.bytes true 0 h9 _ J.len J.u8 M9 a0 az B
       ·rw[aF (by rintro⟨_,_,_,_,_,y⟩;exact c6 y)]at C;subst C
        simp only[c6,aN,aB,H2,Aa];exact stop
      ·rw[aF (by rintro⟨_,_,_,_,y,_⟩;exact c5 y)]at C;subst C
       simp only[c5,aN,aB,Kw,Aa,H2];exact stop
     ·rw[aF (by rintro⟨_,_,_,y,_⟩;exact c4 y)]at C;subst C
      simp only[c4,aN,aB,Kw,Aa,H2];exact stop
    ·rw[aF (by rintro⟨_,_,y,_⟩;exact c3 y)]at C;subst C
     simp only[c1,aD,aA,Aa,C8 aa rfl,l0,I,Ac,c2,Kt,l4,Kv];rw[Al g5 rfl (v:=I x.seq) rfl];simp only[I,Ac,c3,aN,aB,Aa];exact stop
  ·rw[aF (by rintro⟨y,_⟩;exact c1 y)]at C;subst C
   simp only[c1,aN,aB,Aa,Kt,Kv];exact stop
 ·rw[aF h0]
  simp only[h0,aA,Aa,Ac];by_cases ae:er=34
  ·rw[aG ae]
   simp only[ae,aB,Aa];exact no 34 h4 _ M4 Y o B
  ·rw[aF ae]
   simp only[ae,aA,Aa,Ac];by_cases af:er=32
   ·rw[aG af]
    simp only[af,aB,Aa];rw[Ay (l:=Bh Dp) rfl];refine(Bop A hK (by omega) M4 o hz).An ?_;rintro _ t ⟨rfl,M5,k5,E⟩;have B:=k5.at o B F8;have cp:Kf F h4 t:=k5.less sub;exact fin Dp false _ t _ rfl (fun b hb=>by rw[bP hb];decide) M5 (Y.trans cp) E B
   ·rw[aF af]
    simp only[af,aA,Aa];exact no 0 h4 _ M4 Y o B
section
def As3(g:Gm)(x:Me):Bool:=decide (x.state=1)&&meB g x
theorem A7q(M:Dd h m S F)(hb:HB h)(o:Rng x.Aj)(hm:Rng x.Ba):
 Ok (Nb K (.ptr m 0) (.agg x.cells) h) fun v h'=>v=.bool (As3 S.g x)/\Ext h h':=by
 simp only[Nb,Aa];obtain⟨B,t,f,j,_⟩:=nW h (.cells x.cells 47);rw[t];have b:=f.hb hb;obtain⟨_,D,p,bl,ql,np,q,c,G,a⟩:=M.s.ext hb f;have k:=b _ _ j;have lm:=b _ _ a.Kk.Kk;rw[Ku k,Al j rfl (v:=I x.state) rfl];simp only[I,Ac];unfold As3;by_cases h0:x.state=1
 ·simp only[h0,aB,Aa,Aw,bF]
  rw[Ku k,Db j rfl,Ai (n:=6) rfl]
  try simp only[Aa,Aw]
  rw[Ku lm,a.Kk.Bhp]
  try simp only[Aa,Aw]
  refine Ok.bE (Av6 (K:=K) (D4 b) h0 o hm) (fun _ _ p=>p.2) ?_;rintro _ u h2 ⟨rfl,_⟩ _ y;simp only[Nv,Aa];exact .ret ⟨rfl,f.trans y⟩
 ·simp only[h0,aA,Aa,Aw,bA,Nv]
  exact .ret ⟨rfl,f⟩
section
variable (A:Bj disp)(hK:10000<K)(hd:20<=d){b3 b4:Nat}(M:Dd h m S F)(hb:HB h)(x:Me)
include A hK hd M hb
theorem A8f {ih:EV->EV->EV->EV->EV->Ab->R}{f:EV}{z:Int}(Y:Rng z)(E:∀k:EV->R,A08 2 2 true 2 f (.int .i64 (i:Int)) k=k (.agg [I z,I mt]))(f3:F b3)(f4:F b4)
 (Z:h.get b3=some (.cells x.cells 47)) (g4:h.get b4=some (.cells (Bh Dp) 49))
 (j:(S.Dy x z mt).2.2.1=true\/¬(S.Dy x z mt).2.2.2=0->∀h',Dd h' m (S.Dy x z mt).1 F->Kf (fun i=>F i/\¬i=b4) h h'->HB h'->((S.Dy x z mt).2.1.length=32/\∀b∈(S.Dy x z mt).2.1,b<256)->Q (.tuple [.agg (Bh (S.Dy x z mt).2.1),I (S.Dy x z mt).2.2.2]) h')
 (o:¬((S.Dy x z mt).2.2.1=true\/¬(S.Dy x z mt).2.2.2=0)->∀h',Dd h' m (S.Dy x z mt).1 F->Kf F h h'->HB h'->Ok (Ow (Ae TT disp K d false) (Ae TT disp K d true) K ih (.ptr m 0) (.ptr b3 0) (.ptr b4 0) f (.int .i64 (i:Int)) h') Q) :
 Ok (Vl (Ae TT disp K d false) (Ae TT disp K d true) K ih (.ptr m 0) (.ptr b3 0) (.ptr b4 0) f (.int .i64 (i:Int)) h) Q:=by
 simp only[Vl,E,Aa];refine Ok.st [I z,I mt] (Ad _ _) rfl rfl rfl ?_;obtain⟨h1,G,B,U,_⟩:=nP h (.cells [EV.int .i64 0,.int .i64 0] 52) (.cells [I z,I mt] 52);rw[G];have H:=B.hb hb;have M1:=M.ext hb B;have sub:∀i,F i->Bg F h h1 i:=fun i a=>.inl a
 rw[Db (B.at hb Z) rfl,Ai (n:=6) rfl]
 try simp only[Aa]
 rw[show ∀k:EV->R,A0z 2 1 (.ptr h.next 0) (.int .i64 0) k=k (.ptr h.next 0)from fun k=>rfl,Al U rfl (v:=I z) rfl];rw[show ∀k:EV->R,A0z 2 1 (.ptr h.next 0) (.int .i64 1) k=k (.ptr h.next 1)from fun k=>rfl,Al U rfl (v:=I mt) rfl];refine(Bb2 A hK hd M1 H x Y mt).An ?_;rintro _ h2 ⟨rfl,bl,J,M2,k2,u⟩;have L:Kf F h h2:=B.Axz k2;generalize S.Dy x z mt=C at j o bl J M2⊢;obtain⟨T,l,ok,er⟩:=C;simp only at j o bl J M2⊢;have ul:(Bh l).length=32:=by rw[Be,bl]
 simp only[Aa,Io];refine Ok.st (Bh l) (Ad _ _) rfl (by show Gk (Bh l)=32;rw[Bc,ul]) (Bm (by show(Bh Dp).length=(Bh l).length;rw[ul,Be,Afo])) ?_;obtain⟨p,G,O,g8,_⟩:=nP h2 (.cells (Bh Dp) 49) (.cells (Bh l) 49);rw[G];have q:=O.hb u;have V:=(M2.ext u O).less fun i (a:F i)=>Or.inl (sub i a)
 have t:Kf F h p:=L.trans O.kf;have g4:=t.at hb g4 f4;have W:=q _ _ g4;have stop:(ok=true\/¬er=0)->Ok (Oz 32 (.ptr h2.next 0) p fun P=>stE 32 (.ptr b4 0) P p fun h=>Ji TT [.c (.ptr b4 0) 49,.v (I er)] h) Q:=fun hc=>by
  rw[Db g8 rfl,Ai ul]
  try simp only[Aa]
  refine Ok.st (Bh l) g4 rfl (by show Gk (Bh l)=32;rw[Bc,ul]) (Bm (by show(Bh Dp).length=(Bh l).length;rw[ul,Be,Afo])) ?_;rw[Gg (Af _ _ _) Avv.1 Avv.2 ul];have X:Av (fun i=>i=b4) p (p.put b4 (.cells (Bh l) 49)):=(Av.refl (S:=fun i=>i=b4) p).Ar (.inl rfl) W _;exact .ret (j hc _ (V.Ag7 X fun i a _=>a▸f4) ((t.less fun i a=>a.1).trans (X.mono fun i a y=>y.2 a)) (q.put W _) ⟨bl,J⟩)
 simp only[I,Ac]at stop⊢;cases ok with
 | true=>
  simp only[Aa,Ac,Vo];exact stop (.inl rfl)
 | false=>
  simp only[Aa,Ac,Vo];by_cases h0:er=0
  ·simp only[h0,aD,aA,Aa]
   exact o (by rw[h0];simp) p V t q
  ·simp only[h0,aN,aB,Aa]
   exact stop (.inr h0)
end
noncomputable def Mi.read(S:Mi)(x:Me):Mi × List Nat × Int:=
 if As3 S.g x=false then(S,Dp,10)else
 if(S.Dy x x.Aj x.Ba).2.2.1=true\/¬(S.Dy x x.Aj x.Ba).2.2.2=0 then((S.Dy x x.Aj x.Ba).1,(S.Dy x x.Aj x.Ba).2.1,(S.Dy x x.Aj x.Ba).2.2.2)else
 if((S.Dy x x.Aj x.Ba).1.Dy x x.Ba x.Aj).2.2.1=true\/¬((S.Dy x x.Aj x.Ba).1.Dy x x.Ba x.Aj).2.2.2=0 then(((S.Dy x x.Aj x.Ba).1.Dy x x.Ba x.Aj).1,((S.Dy x x.Aj x.Ba).1.Dy x x.Ba x.Aj).2.1,((S.Dy x x.Aj x.Ba).1.Dy x x.Ba x.Aj).2.2.2)else
 (((S.Dy x x.Aj x.Ba).1.Dy x x.Ba x.Aj).1,Dp,41)
theorem Box(A:Bj disp)(hK:10000<K)(hd:21<=d)(M:Dd h m S F)(hb:HB h)(U:Rng x.Aj)(hm:Rng x.Ba):
 Ok (Ae TT disp K d false 112 [.ptr m 0,.agg x.cells] h) fun v h'=>v=.tuple [.agg (Bh (S.read x).2.1),I (S.read x).2.2]/\((S.read x).2.1.length=32/\∀b∈(S.read x).2.1,b<256)/\Dd h' m (S.read x).1 F/\Kf F h h'/\HB h':=by
 obtain⟨dd,rfl⟩:∃k,d=k+1:=⟨d-1,by omega⟩;rw[Aqm A (by omega)];simp only[Akd,Aa];rw[show(h.new (.cells x.cells 47)).next=h.next+1 from rfl,Io];have H:Ext h ((h.new (.cells x.cells 47)).new (.cells (Bh Dp) 49)):=(Av.new _ _).Ds _;have j:((h.new (.cells x.cells 47)).new (.cells (Bh Dp) 49)).get h.next=some (.cells x.cells 47):=by
  rw[Az _ (aL _)];exact Ad _ _
 have g4:((h.new (.cells x.cells 47)).new (.cells (Bh Dp) 49)).get (h.next+1)=some (.cells (Bh Dp) 49):=Ad _ _;have X:((h.new (.cells x.cells 47)).new (.cells (Bh Dp) 49)).next=h.next+2:=rfl
 generalize (h.new (.cells x.cells 47)).new (.cells (Bh Dp) 49)=h1 at H j g4 X⊢;have p:=H.hb hb;have Y:=M.ext hb H;rw[Db j rfl,Ai (n:=6) rfl]
 try simp only[Aa]
 refine(A7q (K:=K) Y p U hm).An ?_;rintro _ h2 ⟨rfl,C⟩;have f:=C.hb p;have E:Ext h h2:=H.trans C;have M2:=M.ext hb E;have j:=C.at p j;have g4:=C.at p g4;have ln:=C.next
 have f3:Bg F h h2 h.next:=.inr ⟨aE _,by omega⟩
 have f4:Bg F h h2 (h.next+1):=.inr ⟨by omega,by omega⟩;have sub:∀i,F i->Bg F h h2 i:=fun i q=>.inl q
 have back:∀h',Kf (fun i=>Bg F h h2 i/\¬i=h.next+1) h2 h'->Kf F h h':=fun h' k=>
  Av.then (S:=fun i=>¬F i) (Ext.to E) k fun i y Z z=>y ⟨.inl z,fun y=>by have:=M.lt i z;omega⟩
 have fin:∀(o:Ab) (T:Mi) (er:Int),Dd o m T (Bg F h h2)->Kf (Bg F h h2) h2 o->HB o ->
  Ok (Bv (Mv 1) (Bh Dp) [] fun v=>stE 32 (.ptr (h.next+1) 0) v o fun h'=>Ji TT [.c (.ptr (h.next+1) 0) 49,.v (I er)] h') fun v h'=>v=.tuple [.agg (Bh Dp),I er]/\(Dp.length=32/\∀b∈Dp,b<256)/\Dd h' m T F/\Kf F h h'/\HB h':=by
  intro o T er G t a;have g4:=t.at f g4 f4;have V:=a _ _ g4;rw[Ay (l:=Bh Dp) rfl];refine Ok.st (Bh Dp) g4 rfl rfl (Bm rfl) ?_;rw[Gg (Af _ _ _) Avv.1 Avv.2 rfl];have W:Av (fun i=>i=h.next+1) o (o.put (h.next+1) (.cells (Bh Dp) 49)):=(Av.refl (S:=fun i=>i=h.next+1) o).Ar (.inl rfl) V _;exact .ret ⟨rfl,⟨rfl,fun b hb=>by rw[bP hb];decide⟩,(G.Ag7 W fun i q _=>q▸f4).less sub,back _ ((t.less fun i q=>q.1).trans (W.mono fun i q y=>y.2 q)),a.put V _⟩
 unfold Mi.read;cases Z:As3 S.g x with
 | false=>
  simp only[Aa,bM];exact fin h2 S 10 M2 (Av.refl _) f
 | true=>
  rw[aF (by simp)];simp only[Aa,Ad9];rw[Al j rfl (v:=I x.Aj) rfl]
  try simp only[Aa]
  rw[Al j rfl (v:=I x.Ba) rfl,Ay (l:=[I x.Aj,I x.Ba]) rfl]
  try simp only[Aa]
  rw[Al j rfl (v:=I x.Ba) rfl]
  try simp only[Aa]
  rw[Al j rfl (v:=I x.Aj) rfl,Ay (l:=[I x.Ba,I x.Aj]) rfl,Ay (l:=[I x.Aj,I x.Ba,I x.Ba,I x.Aj]) rfl];obtain⟨k,rfl⟩:∃k,K=k+3:=⟨K-3,by omega⟩;rw[show Dr (Ae TT disp (k+3) dd false) (Ae TT disp (k+3) dd true) (k+3) (k+3)=Dr (Ae TT disp (k+3) dd false) (Ae TT disp (k+3) dd true) (k+3) (k+2+1)from rfl];rw[Dr];simp only[Ac,show decide ((0:Int)<2)=true from rfl,Aa];refine A8f A hK (by omega) M2 f x (i:=0) U (fun k=>rfl) f3 f4 j g4 ?_ ?_
  ·intro u o G t a bl
   rw[aG u];exact⟨rfl,bl,G.less sub,back _ t,a⟩
  ·intro u o G t a
   rw[aF u];simp only[Ow,Ac];rw[show Dz .i64 (((0:Nat):Int)+1)=((1:Nat):Int)from rfl];rw[show Dr (Ae TT disp (k+3) dd false) (Ae TT disp (k+3) dd true) (k+3) (k+2)=Dr (Ae TT disp (k+3) dd false) (Ae TT disp (k+3) dd true) (k+3) (k+1+1)from rfl];rw[Dr];simp only[Ac,show decide (((1:Nat):Int)<2)=true from rfl,Aa];have J:=t.at f j f3;have L:=t.at f g4 f4;refine A8f A hK (by omega) G a x (i:=1) hm (fun k=>rfl) f3 f4 J L ?_ ?_
   ·intro u h4 O P B bl
    rw[aG u];exact⟨rfl,bl,O.less sub,back _ ((t.less fun i q=>q.1).trans P),B⟩
   ·intro u h4 O P B
    rw[aF u];simp only[Ow,Ac];rw[show Dz .i64 (((1:Nat):Int)+1)=((2:Nat):Int)from rfl];rw[Dr];simp only[Ac,show decide (((2:Nat):Int)<2)=false from rfl,Aa,Ad0,Io];exact fin h4 _ 41 O (t.trans P) B
section
variable (A:Bj disp)(hK:10000<K)(hd:20<=d){b3 b4 b7:Nat}(M:Dd h m S F)(hb:HB h)(x:Me)
include A hK hd M hb
theorem A34{v30:EV}{z:Int}{l0:List Nat}{n gd:Nat}(hn:n<=10)(aw:gd<=10)(B:l0.length=32)(hz:Rng z)(X:∀k:EV->R,A08 2 2 true 2 v30 (.int .i64 (i:Int)) k=k (.agg [I z,I mt]))(f3:F b3)(f4:F b4)(f7:F b7)(ax:b4≠b7)
 (g3:h.get b3=some (.cells x.cells 47)) (g4:h.get b4=some (.cells (Bh Dp) 49)) (E:h.get b7=some (.cells (Bh l0) 49))
 (t:¬(S.Dy x z mt).2.2.2=0->∀h',Dd h' m (S.Dy x z mt).1 F->Kf (fun i=>F i/\¬i=b4/\¬i=b7) h h'->HB h'->Q (.tuple [.agg (Bh Dp),I 0,I (S.Dy x z mt).2.2.2]) h')
 (f:(S.Dy x z mt).2.2.2=0->∀h',Dd h' m (S.Dy x z mt).1 F->Kf (fun i=>F i/\¬i=b7) h h'->HB h'->(if(S.Dy x z mt).2.2.1=true then(S.Dy x z mt).2.1 else l0).length=32 ->
  h'.get b7=some (.cells (Bh (if(S.Dy x z mt).2.2.1=true then(S.Dy x z mt).2.1 else l0)) 49) ->
  Ok (Jv (Ae TT disp K d false) (Ae TT disp K d true) K ih (.ptr m 0) (.ptr b3 0) (.ptr b4 0) (.ptr b7 0) (I ((if(S.Dy x z mt).2.2.1=true/\(S.Dy x z mt).1.F0 z=false then n+1 else n:Nat):Int)) (I ((if(S.Dy x z mt).2.2.1=true then gd+1 else gd:Nat):Int)) v30 (.int .i64 (i:Int)) h') Q) :
 Ok (Tl (Ae TT disp K d false) (Ae TT disp K d true) K ih (.ptr m 0) (.ptr b3 0) (.ptr b4 0) (.ptr b7 0) (I (n:Int)) (I (gd:Int)) v30 (.int .i64 (i:Int)) h) Q:=by
 simp only[Tl,X,Aa];refine Ok.st [I z,I mt] (Ad _ _) rfl rfl rfl ?_;obtain⟨P,Y,U,a,n1⟩:=nP h (.cells [EV.int .i64 0,.int .i64 0] 52) (.cells [I z,I mt] 52);rw[Y];have G:=U.hb hb;have M1:=M.ext hb U;have Z:Bg F h P h.next:=.inr ⟨aE _,by omega⟩
 have sub:∀i,F i->Bg F h P i:=fun i b=>.inl b
 rw[Db (U.at hb g3) rfl,Ai (n:=6) rfl]
 try simp only[Aa]
 rw[show ∀k:EV->R,A0z 2 1 (.ptr h.next 0) (.int .i64 0) k=k (.ptr h.next 0)from fun k=>rfl,Al a rfl (v:=I z) rfl];rw[show ∀k:EV->R,A0z 2 1 (.ptr h.next 0) (.int .i64 1) k=k (.ptr h.next 1)from fun k=>rfl,Al a rfl (v:=I mt) rfl];refine(Bb2 A hK hd M1 G x hz mt).An ?_;rintro _ h2 ⟨rfl,bl,bu,M2,k2,u⟩;have aa:Kf F h h2:=U.Axz k2;have a:=k2.at G a Z;generalize S.Dy x z mt=C at t f bl bu M2⊢;obtain⟨T,l,ok,er⟩:=C;simp only at t f bl bu M2⊢;have ul:(Bh l).length=32:=by rw[Be,bl]
 have ab:(Bh l0).length=32:=by rw[Be,B]
 simp only[Aa,Io];refine Ok.st (Bh l) (Ad _ _) rfl (by show Gk (Bh l)=32;rw[Bc,ul]) (Bm (by show(Bh Dp).length=(Bh l).length;rw[ul,Be,Afo])) ?_;obtain⟨j,Y,V,ad,_⟩:=nP h2 (.cells (Bh Dp) 49) (.cells (Bh l) 49);rw[Y];have o:=V.hb u;have a:=V.at u a;have H:=(M2.ext u V).less fun i (b:Bg F h P i)=>Or.inl b
 have M3:=H.less sub;have p:Kf F h j:=aa.trans V.kf;have g4:=p.at hb g4 f4;have E:=p.at hb E f7;have l4:=o _ _ g4;have l7:=o _ _ E;simp only[I,Ac];by_cases h0:er=0
 ·simp only[h0,aD,aA,Aa,Acm]
  have f:=f h0;cases ok with
  | false=>
   simp only[Aa];have:=f j M3 (p.less fun i b=>b.1) o (by simp[B]) (by simpa using E);simpa [I]using this
  | true=>
   simp only[Aa,Acb];rw[Db ad rfl,Ai ul]
   try simp only[Aa]
   refine Ok.st (Bh l) E rfl (by show Gk (Bh l)=32;rw[Bc,ul]) (Bm (by show(Bh l0).length=(Bh l).length;rw[ul,ab])) ?_;have c7:Av (fun i=>i=b7) j (j.put b7 (.cells (Bh l) 49)):=(Av.refl (S:=fun i=>i=b7) j).Ar (.inl rfl) l7 _;have M4:=H.Ag7 c7 fun i b _=>by
    have b:i=b7:=b;subst b;exact sub _ f7
   have J:(j.put b7 (.cells (Bh l) 49)).get b7=some (.cells (Bh l) 49):=Af _ _ _;have a:(j.put b7 (.cells (Bh l) 49)).get h.next=some (.cells [I z,I mt] 52):=by
    rw[Ag _ (fun y=>by have:=M.lt _ f7;omega)];exact a
   have L:Kf (fun i=>F i/\¬i=b7) h (j.put b7 (.cells (Bh l) 49)):=(p.less fun i b=>b.1).trans (c7.mono fun i b y=>y.2 b);have q:HB (j.put b7 (.cells (Bh l) 49)):=o.put l7 _;generalize j.put b7 (.cells (Bh l) 49)=h4 at M4 J a L q⊢;simp only[I,Ac];rw[Cj (n:=(gd:Int)+1) (by omega) (by omega),Cj (n:=(n:Int)+1) (by omega) (by omega)];rw[show ∀k:EV->R,A0z 2 1 (.ptr h.next 0) (.int .i64 0) k=k (.ptr h.next 0)from fun k=>rfl,Al a rfl (v:=I z) rfl];refine(Qn (K:=K) M4.s q hz).An ?_;rintro _ h5 ⟨rfl,W⟩;have af:=W.hb q;have M5:=(M4.ext q W).less fun i (b:Bg F h P i)=>Or.inl b
   have this:=f h5 (M5.less sub) (L.trans W.kf) af (by simpa using bl) (by simpa using W.at q J);cases O:T.F0 z with
   | true=>
    simp only[Aa];simpa [I,O]using this
   | false=>
    simp only[Aa,Ac];simpa [I,O]using this
 ·simp only[h0,aN,aB,Aa]
  rw[Ay (l:=Bh Dp) rfl];refine Ok.st (Bh Dp) g4 rfl rfl (Bm rfl) ?_;rw[Am8 (Af _ _ _) Avv.1 Avv.2 rfl];have c8:Av (fun i=>i=b4) j (j.put b4 (.cells (Bh Dp) 49)):=(Av.refl (S:=fun i=>i=b4) j).Ar (.inl rfl) l4 _;exact .ret (t h0 _ (M3.Ag7 c8 fun i b _=>b▸f4) ((p.less fun i b=>b.1).trans (c8.mono fun i b y=>y.2.1 b)) (o.put l4 _))
end
noncomputable def Mi.A5h(x:Me)(C D:Mi × List Nat × Bool × Int):Mi × List Nat × Int × Int:=
 if ¬D.2.2.2=0 then(D.1,Dp,0,D.2.2.2)else
 if C.2.2.1=false/\D.2.2.1=false then(D.1,Dp,0,41)else
 (D.1,if D.2.2.1=true then D.2.1 else C.2.1,(if C.2.2.1=true/\C.1.F0 x.Aj=false then 1 else 0)+(if D.2.2.1=true/\D.1.F0 x.Ba=false then 1 else 0),0)
noncomputable def Mi.check(S:Mi)(x:Me):Mi × List Nat × Int × Int:=
 if As3 S.g x=false then(S,Dp,0,10)else
 if ¬(S.Dy x x.Aj x.Ba).2.2.2=0 then((S.Dy x x.Aj x.Ba).1,Dp,0,(S.Dy x x.Aj x.Ba).2.2.2)else
 Mi.A5h x (S.Dy x x.Aj x.Ba) ((S.Dy x x.Aj x.Ba).1.Dy x x.Ba x.Aj)
theorem A8e(A:Bj disp)(hK:10000<K)(hd:21<=d)(M:Dd h m S F)(hb:HB h)(hz:Rng x.Aj)(hm:Rng x.Ba):
 Ok (Ae TT disp K d false 18 [.ptr m 0,.agg x.cells] h) fun v h'=>v=.tuple [.agg (Bh (S.check x).2.1),I (S.check x).2.2.1,I (S.check x).2.2.2]/\(S.check x).2.1.length=32/\Dd h' m (S.check x).1 F/\Kf F h h'/\HB h':=by
 obtain⟨dd,rfl⟩:∃k,d=k+1:=⟨d-1,by omega⟩;rw[Aoj A (by omega)];simp only[Aiq,Aa];rw[show(h.new (.cells x.cells 47)).next=h.next+1 from rfl,Io];have x1:Ext h ((h.new (.cells x.cells 47)).new (.cells (Bh Dp) 49)):=(Av.new _ _).Ds _;have j:((h.new (.cells x.cells 47)).new (.cells (Bh Dp) 49)).get h.next=some (.cells x.cells 47):=by
  rw[Az _ (aL _)];exact Ad _ _
 have g4:((h.new (.cells x.cells 47)).new (.cells (Bh Dp) 49)).get (h.next+1)=some (.cells (Bh Dp) 49):=Ad _ _;have n1:((h.new (.cells x.cells 47)).new (.cells (Bh Dp) 49)).next=h.next+2:=rfl
 generalize (h.new (.cells x.cells 47)).new (.cells (Bh Dp) 49)=h1 at x1 j g4 n1⊢;have t:=x1.hb hb;have M1:=M.ext hb x1;rw[Db j rfl,Ai (n:=6) rfl]
 try simp only[Aa]
 refine(A7q (K:=K) M1 t hz hm).An ?_;rintro _ h2 ⟨rfl,U⟩;have o:=U.hb t;have H:Ext h h2:=x1.trans U;have M2:=M.ext hb H;have j:=U.at t j;have g4:=U.at t g4;have ln:=U.next
 have ay:Bg F h h2 (h.next+1):=.inr ⟨by omega,by omega⟩;have l4:=o _ _ g4;unfold Mi.check;cases hl:As3 S.g x with
 | false=>
  simp only[Aa,bM];rw[Ay (l:=Bh Dp) rfl];refine Ok.st (Bh Dp) g4 rfl rfl (Bm rfl) ?_;rw[Am8 (Af _ _ _) Avv.1 Avv.2 rfl];have J:Ext h (h2.put (h.next+1) (.cells (Bh Dp) 49)):=H.Ar (.inr (by omega)) l4 _;exact .ret ⟨rfl,rfl,(M.ext hb J).less fun i (f:F i)=>Or.inl f,J.kf,o.put l4 _⟩
 | true=>
  rw[aF (by simp)];simp only[Aa,Ac7,Io];obtain⟨u,e_,J,g7,n3⟩:=nW h2 (.cells (Bh Dp) 49);rw[e_];have L:=J.hb o;have V:Ext h u:=H.trans J;have M3:=M.ext hb V;have j:=J.at o j;have g4:=J.at o g4;have f3:Bg F h u h.next:=.inr ⟨aE _,by omega⟩
  have f4:Bg F h u (h.next+1):=.inr ⟨by omega,by omega⟩;have f7:Bg F h u h2.next:=.inr ⟨by omega,by omega⟩
  have B:h.next+1≠h2.next:=by omega
  have sub:∀i,F i->Bg F h u i:=fun i f=>.inl f
  have back:∀h',Kf (fun i=>Bg F h u i/\¬i=h.next+1/\¬i=h2.next) u h'->Kf F h h':=fun h' k=>
   Av.then (S:=fun i=>¬F i) (Ext.to V) k fun i y hl z=>y ⟨.inl z,fun y=>by have:=M.lt i z;omega,fun y=>by have:=M.lt i z;omega⟩
  rw[Al j rfl (v:=I x.Aj) rfl]
  try simp only[Aa]
  rw[Al j rfl (v:=I x.Ba) rfl,Ay (l:=[I x.Aj,I x.Ba]) rfl]
  try simp only[Aa]
  rw[Al j rfl (v:=I x.Ba) rfl]
  try simp only[Aa]
  rw[Al j rfl (v:=I x.Aj) rfl,Ay (l:=[I x.Ba,I x.Aj]) rfl,Ay (l:=[I x.Aj,I x.Ba,I x.Ba,I x.Aj]) rfl];obtain⟨k,rfl⟩:∃k,K=k+3:=⟨K-3,by omega⟩;rw[show Dg (Ae TT disp (k+3) dd false) (Ae TT disp (k+3) dd true) (k+3) (k+3)=Dg (Ae TT disp (k+3) dd false) (Ae TT disp (k+3) dd true) (k+3) (k+2+1)from rfl];rw[Dg];simp only[Ac,show decide ((0:Int)<2)=true from rfl,Aa];refine A34 A hK (by omega) M3 L x (i:=0) (n:=0) (gd:=0) (l0:=Dp) (by omega) (by omega) rfl hz (fun k=>rfl) f3 f4 f7 B j g4 g7 ?_ ?_
  ·intro O h4 M4 P E
   rw[aG O];exact⟨rfl,rfl,M4.less sub,back _ P,E⟩
  ·intro O h4 M4 P E p W
   rw[aF (show ¬¬(S.Dy x x.Aj x.Ba).2.2.2=0 from fun y=>y O)];have ag:=P.at L j ⟨f3,by omega⟩;have X:=P.at L g4 ⟨f4,B⟩;generalize S.Dy x x.Aj x.Ba=C at M4 p W⊢;simp only[Jv,Ac];rw[show Dz .i64 (((0:Nat):Int)+1)=((1:Nat):Int)from rfl];rw[show Dg (Ae TT disp (k+3) dd false) (Ae TT disp (k+3) dd true) (k+3) (k+2)=Dg (Ae TT disp (k+3) dd false) (Ae TT disp (k+3) dd true) (k+3) (k+1+1)from rfl];rw[Dg];simp only[Ac,show decide (((1:Nat):Int)<2)=true from rfl,Aa];have ah:(if C.2.2.1=true/\C.1.F0 x.Aj=false then 0+1 else 0)<=10:=by split<;>omega
   have ai:(if C.2.2.1=true then 0+1 else 0)<=10:=by split<;>omega
   refine A34 A hK (by omega) M4 E x (i:=1) ah ai p hm (fun k=>rfl) f3 f4 f7 B ag X W ?_ ?_
   ·intro O T M5 k5 G
    unfold Mi.A5h;rw[aG O];exact⟨rfl,rfl,M5.less sub,back _ ((P.less fun i f=>⟨f.1,f.2.2⟩).trans k5),G⟩
   ·intro O T M5 k5 G a b
    unfold Mi.A5h;rw[aF (show ¬¬(C.1.Dy x x.Ba x.Aj).2.2.2=0 from fun y=>y O)];have Y:=k5.at E X ⟨f4,B⟩;have Z:=G _ _ Y;generalize C.1.Dy x x.Ba x.Aj=D at M5 a b⊢;simp only[Jv,Ac];rw[show Dz .i64 (((1:Nat):Int)+1)=((2:Nat):Int)from rfl];rw[Dg];simp only[Ac,show decide (((2:Nat):Int)<2)=false from rfl,Aa,Acw,I];have aj:Kf (fun i=>Bg F h u i/\¬i=h.next+1/\¬i=h2.next) u T:=(P.less fun i f=>⟨f.1,f.2.2⟩).trans (k5.less fun i f=>⟨f.1,f.2.2⟩);have fin:∀(l:List Nat) (n er:Int),l.length=32->Ok (stE 32 (.ptr (h.next+1) 0) (.agg (Bh l)) T fun h'=>Ji TT [.c (.ptr (h.next+1) 0) 49,.v (I n),.v (I er)] h') fun v h'=>v=.tuple [.agg (Bh l),I n,I er]/\l.length=32/\Dd h' m D.1 F/\Kf F h h'/\HB h':=by
     intro l n er hl;have ul:(Bh l).length=32:=by rw[Be,hl]
     refine Ok.st (Bh l) Y rfl (by show Gk (Bh l)=32;rw[Bc,ul]) (Bm (by show(Bh Dp).length=(Bh l).length;rw[ul,Be,Afo])) ?_;rw[Am8 (Af _ _ _) Avv.1 Avv.2 ul];have c8:Av (fun i=>i=h.next+1) T (T.put (h.next+1) (.cells (Bh l) 49)):=(Av.refl (S:=fun i=>i=h.next+1) T).Ar (.inl rfl) Z _;exact .ret ⟨rfl,hl,(M5.Ag7 c8 fun i f _=>f▸f4).less sub,back _ (aj.trans (c8.mono fun i f y=>y.2.1 f)),G.put Z _⟩
    cases c1:C.2.2.1 with
    | false=>
     rw[c1]at a b;cases c2:D.2.2.1 with
     | false=>
      simp only[ak,gN,bD,and_self,bM,show((0:Nat):Int)=0 from rfl,aB,Aa,Io];rw[Ay (l:=Bh Dp) rfl];exact fin Dp 0 41 rfl
     | true=>
      rw[c2]at a b;simp only[bM]at a b;simp only[ak,gN,bD,fK,and_false,gO,bM,Aa,Nu,show decide (((0+1:Nat):Int)=0)=false from rfl];rw[Db b rfl,Ai (by rw[Be,a])];simp only[Aa];have:=fin D.2.1 ((if D.1.F0 x.Ba=false then 0+1 else 0:Nat):Int) 0 a;simp only[I]at this;cases q:D.1.F0 x.Ba<;>simpa [q]using this
    | true=>
     rw[c1]at p a b;simp only[bM]at p;cases c2:D.2.2.1 with
     | false=>
      rw[c2]at a b;simp only[bM,ak,bD]at a b;simp only[fK,gN,bD,gO,bM,ak,Aa,Nu,show decide (((0+1:Nat):Int)=0)=false from rfl];rw[Db b rfl,Ai (by rw[Be,a])];simp only[Aa];have:=fin C.2.1 ((if C.1.F0 x.Aj=false then 0+1 else 0:Nat):Int) 0 p;simp only[I]at this;cases q:C.1.F0 x.Aj<;>simpa [q]using this
     | true=>
      rw[c2]at a b;simp only[bM]at a b;simp only[fK,gN,bD,gO,bM,Aa,Nu,show decide (((0+1+1:Nat):Int)=0)=false from rfl];rw[Db b rfl,Ai (by rw[Be,a])];simp only[Aa];have:=fin D.2.1 (((if C.1.F0 x.Aj=false then 1 else 0)+(if D.1.F0 x.Ba=false then 1 else 0):Nat):Int) 0 a;simp only[I]at this;cases al:C.1.F0 x.Aj<;>cases q:D.1.F0 x.Ba<;>simpa [al,q]using this
end
noncomputable def Lk.new(n size:Nat)(op:Int):Lk:=⟨⟨n,size,op,0,false,fun _=>Zn.empty⟩,[],[]⟩
noncomputable def Mi.new(g:Gm):Mi:=⟨g,Lk.new (g.D*g.Z).toNat g.S.toNat g.O,fun _=>[],fun _=>0,-1,-1,0⟩
theorem Bre(s:Sm g){h0:Ab}(hb:HB h){D V M zl p bl ql:Nat}{z q c:Nat->Nat}(d:Als h D V M zl (g.D*g.Z).toNat z (fun _=>0) g.S g.O 0 false .Ao .Ao [] (fun _=>Zn.empty))
 (nd:(h0.next<=D/\h0.next<=M)/\h0.next<=V/\h0.next<=zl/\∀d,d<(g.D*g.Z).toNat->h0.next<=z d) (E:Aff h m D p bl (g.D*g.Z).toNat g (-1) (-1) 0 (fun _=>0)) (v:Fy h p ql g.D.toNat q c g (fun _=>[]))
 (nm:(h0.next<=m/\h0.next<=bl)/\h0.next<=p/\h0.next<=ql/\∀d,d<g.D.toNat->h0.next<=q d/\h0.next<=c d) (le:h0.next<=h.next):Dd h m (Mi.new g) (fun i=>i<h0.next):=by
 have:=s.d0;have:=s.d1;have:=s.z0;have:=s.z1;have:=s.s0;have:=s.s1;obtain⟨X,m1⟩:=Va (a:=g.D) (b:=g.Z) (A:=8) (B:=64) (by omega) (by omega) (by omega) (by omega);have j:=d.dev;have u:∀i,i<(g.D*g.Z).toNat->∃s,h.get (z i)=some (.cells [s,I g.S,I 0,I 0,.bool false] 202):=fun i f=>by
  obtain⟨s,a,_⟩:=(j.Aj i f).Aj;exact⟨s,a⟩
 have P:∀i,A6i V zl (g.D*g.Z).toNat z (fun _=>0) (fun _=>Zn.empty) i->i=V\/i=zl\/∃d,d<(g.D*g.Z).toNat/\i=z d:=fun i f=>by
  rcases f with y|y|⟨d,hd,y|y⟩
  ·exact .inl y
  ·exact .inr (.inl y)
  ·exact .inr (.inr ⟨d,hd,y⟩)
  ·exact absurd rfl y.1
 have kind:∀i o,h.get i=some o->(∀l,o≠.cells l 183)->(∀l,o≠.vec l 184 1)->(∀l,o≠.cells l 202)->¬A6i V zl (g.D*g.Z).toNat z (fun _=>0) (fun _=>Zn.empty) i:=fun i o t H h2 J f=>by
  rcases P i f with y|y|⟨d,hd,y⟩
  ·subst y;rw[j.dev]at t;cases t;exact H _ rfl
  ·subst y;rw[j.row]at t;cases t;exact h2 _ rfl
  ·subst y
   obtain⟨s,hs⟩:=u d hd;rw[hs]at t;cases t;exact J _ rfl
 have C:∀i o,h.get i=some o->(∀l,o≠.cells l 183)->(∀l,o≠.vec l 184 1)->(∀l,o≠.cells l 202)->(∀l,o≠.cells l 143)->(∀l,o≠.map l)->¬(i=D\/i=M\/A6i V zl (g.D*g.Z).toNat z (fun _=>0) (fun _=>Zn.empty) i):=fun i o t H h2 J h4 T f=>by
  rcases f with y|y|y
  ·subst y;rw[d.Eb]at t;cases t;exact h4 _ rfl
  ·subst y;rw[d.marks]at t;cases t;exact T _ rfl
  ·exact kind i o t H h2 J y
 have n:∀i,A6i V zl (g.D*g.Z).toNat z (fun _=>0) (fun _=>Zn.empty) i->i<h.next/\h0.next<=i:=fun i f=>by
  rcases P i f with y|y|⟨d,hd,y⟩
  ·subst y;exact⟨hb _ _ j.dev,nd.2.1⟩
  ·subst y;exact⟨hb _ _ j.row,nd.2.2.1⟩
  ·subst y
   obtain⟨s,hs⟩:=u d hd;exact⟨hb _ _ hs,nd.2.2.2 d hd⟩
 have hS:g.S=((g.S.toNat:Nat):Int):=by omega
 have G:G2 h D (Lk.new (g.D*g.Z).toNat g.S.toNat g.O) (fun i=>i=D\/i=M\/A6i V zl (g.D*g.Z).toNat z (fun _=>0) (fun _=>Zn.empty) i):=by
  have U:∀size:Nat,0<size->Zn.empty.Wf size:=fun size hs=>⟨fun x L=>(by cases L),by show 0<=4;omega,aE _,cQ _,fun _=>hs⟩
  have W:Dv.Wf ⟨(g.D*g.Z).toNat,g.S.toNat,g.O,0,false,fun _=>Zn.empty⟩:=⟨by show g.S.toNat<=64;omega,by show(g.D*g.Z).toNat<=512;omega,fun i _=>U _ (by show 0<g.S.toNat;omega)⟩;refine⟨fun i f=>?_,⟨by show 0+0<=200;omega,fun e he=>(by cases he),fun e he=>(by cases he)⟩,V,M,0,0,.Ao,.Ao,[],_,d.Eb,d.marks,fun e he=>(by cases he),.nil _ _ _ _,.nil _ _ _ _,⟨W,fun i f=>(n i f).1,zl,z,fun _=>0,?_,fun i f=>f⟩,⟨fun i f=>.inr (.inr f),.inl rfl,.inr (.inl rfl),fun y=>absurd y (bS _),fun y=>absurd y (bS _)⟩,⟨kind _ _ d.Eb (by intros;simp) (by intros;simp) (by intros;simp),kind _ _ d.marks (by intros;simp) (by intros;simp) (by intros;simp),fun y=>absurd y (bS _),fun y=>absurd y (bS _),fun y=>absurd y (bS _)⟩⟩
  ·rcases f with y|y|y
   ·subst y;exact hb _ _ d.Eb
   ·subst y;exact hb _ _ d.marks
   ·exact(n i y).1
  ·show Oe h V zl (g.D*g.Z).toNat z (fun _=>0) ((g.S.toNat:Nat):Int) g.O 0 false (fun _=>Zn.empty)
   rw[<-hS];exact j
 refine⟨⟨fun i f=>f.1,D,p,bl,ql,g.D.toNat,q,c,_,E,v,⟨rfl,s,fun d _=>cQ _⟩,G,?_,?_⟩,fun i f=>aK f le,{ toWp:=⟨s,fun d _ x L=>by cases L⟩,op:=.inl ⟨rfl,rfl⟩ }⟩
 ·have k:=C
  exact⟨k _ _ E.Kk (by intros;simp) (by intros;simp) (by intros;simp) (by intros;simp) (by intros;simp),k _ _ E.A21 (by intros;simp) (by intros;simp) (by intros;simp) (by intros;simp) (by intros;simp),k _ _ v.Hp (by intros;simp) (by intros;simp) (by intros;simp) (by intros;simp) (by intros;simp),k _ _ v.row (by intros;simp) (by intros;simp) (by intros;simp) (by intros;simp) (by intros;simp),
   fun d hd=>⟨k _ _ (v.que d hd) (by intros;simp) (by intros;simp) (by intros;simp) (by intros;simp) (by intros;simp),k _ _ (v.chan d hd) (by intros;simp) (by intros;simp) (by intros;simp) (by intros;simp) (by intros;simp)⟩⟩
 ·refine⟨fun i f=>?_,⟨hb _ _ E.Kk,by omega⟩,⟨hb _ _ E.A21,by omega⟩,⟨hb _ _ v.Hp,by omega⟩,⟨hb _ _ v.row,by omega⟩,fun d hd=>⟨⟨hb _ _ (v.que d hd),by have:=nm.2.2.2 d hd;omega⟩,⟨hb _ _ (v.chan d hd),by have:=nm.2.2.2 d hd;omega⟩⟩⟩
  rcases f with y|y|y
  ·subst y;exact⟨hb _ _ d.Eb,by omega⟩
  ·subst y;exact⟨hb _ _ d.marks,by omega⟩
  ·exact⟨(n i y).1,by have:=(n i y).2;omega⟩
theorem A46 {ps:Nat->List Int}{a:Nat}:∀n,a<n->(ps a).length<=Qq ps n
 | 0,h=>absurd h (br _)
 | n+1,h=>by
  rw[Ky];rcases cL.1 h with y|y
  ·have:=A46 (ps:=ps) n y;omega
  ·subst y;omega
theorem Ayy {ps:Nat->List Int}{a b:Nat}(f:a≠b):∀n,a<n->b<n->(ps a).length+(ps b).length<=Qq ps n
 | 0,h,_=>absurd h (br _)
 | n+1,j,hb=>by
  rw[Ky];rcases cL.1 j with y|y<;>rcases cL.1 hb with z|z
  ·have:=Ayy (ps:=ps) f n y z;omega
  ·subst z;have:=A46 (ps:=ps) b y;omega
  ·subst y;have:=A46 (ps:=ps) a z;omega
  ·omega
theorem A0o {zs:Nat->Zn}{a b:Nat}:∀n,(∀i,i<n->(zs i).st=1->i=a\/i=b)->Wm zs n<=(if a<n then 1 else 0)+(if b<n then 1 else 0)
 | 0,_=>by unfold Wm;simp
 | n+1,h=>by
  rw[Axs];have ih:=A0o n fun i j=>h i (by omega)
  by_cases f:(zs n).st=1
  ·rw[aG f]
   rcases h n (aL _) f with y|y
   ·subst y
    rw[aF (bS _)]at ih;rw[aG (aL _)];have:(if b<n then 1 else 0)<=(if b<n+1 then 1 else 0):=by split<;>split<;>omega
    omega
   ·subst y
    rw[aF (bS n)]at ih;rw[aG (aL n)];have:(if a<n then 1 else 0)<=(if a<n+1 then 1 else 0):=by split<;>split<;>omega
    omega
  ·rw[aF f]
   have t1:(if b<n then 1 else 0)<=(if b<n+1 then 1 else 0):=by split<;>split<;>omega
   have t2:(if a<n then 1 else 0)<=(if a<n+1 then 1 else 0):=by split<;>split<;>omega
   omega
noncomputable def Aqo(e:En)(z mt off Ap seq:Int):List EV:=Bh (Vc (E9 { e with Ba:=mt } z off Ap seq).1)
def EOk(e:En)(Ap seq:Int):Prop:=(E9 e 0 0 Ap seq).2=0
theorem EOk.at{seq:Int}(h:EOk e Ap seq){z:Int}(k:0<=z)(a:z<=65535)(hm:0<=mt)(b:mt<=65535)(n:0<=off)(f:off<=65535):(E9 { e with Ba:=mt } z off Ap seq).2=0:=by
 unfold EOk E9 at h;by_cases j:erB e=true/\frB ⟨e.kind,0,0,Ap,seq,(Ee e).1⟩=true/\e.first<=seq/\seq-e.count<e.first
 ·obtain⟨c1,c2,c3,c4⟩:=j
  unfold E9;rw[aG];refine⟨?_,?_,c3,c4⟩
  ·unfold erB at c1⊢
   simp only[aR]at c1⊢;exact⟨c1.1,c1.2.1,Fl.2 ⟨hm,b⟩,c1.2.2.2⟩
  ·unfold frB at c2⊢
   simp only[aR]at c2⊢;exact⟨c2.1,Fl.2 ⟨k,a⟩,Fl.2 ⟨n,f⟩,c2.2.2.2⟩
 ·rw[aF j]at h
  exact absurd h (by decide)
theorem EOk.seq{seq:Int}(h:EOk e Ap seq):0<=seq/\seq<=281474976710655/\erB e=true:=by
 unfold EOk E9 at h;by_cases a:erB e=true/\frB ⟨e.kind,0,0,Ap,seq,(Ee e).1⟩=true/\e.first<=seq/\seq-e.count<e.first
 ·obtain⟨c1,c2,c3,c4⟩:=a
  unfold frB at c2;simp only[aR]at c2;have:=Fl.1 c2.2.2.2.2;exact⟨this.1,this.2,c1⟩
 ·rw[aF a]at h
  exact absurd h (by decide)
structure Calm(S:Mi):Prop where
 wf:S.Wf
 rt:rtB S.g=true
 ev:S.dr.ev = []
 up:S.dr.dv.down=false
 n:S.dr.dv.n=(S.g.D*S.g.Z).toNat
 size:S.dr.dv.size=S.g.S.toNat
 op:S.dr.dv.op=S.g.O
 bad:∀i,¬S.bad i=1
 nd:∀d,d<S.g.D.toNat->(S.ps d).Nodup
 fr:∀d,d<S.g.D.toNat->∀x∈S.ps d,(S.dr.dv.zs x.toNat).l = []/\(S.dr.dv.zs x.toNat).st=0
 opn:(S.a = -1/\S.b = -1)\/(0<=Bu S.g S.a/\0<=Bu S.g S.b/\¬Bu S.g S.a=Bu S.g S.b/\0<=S.u/\S.u<=S.g.S /\
  (∀d,d<S.g.D.toNat->S.a ∉ S.ps d/\S.b ∉ S.ps d)/\(∀z,z=S.a\/z=S.b->((S.dr.dv.zs z.toNat).l.length:Int)=S.u/\(S.dr.dv.zs z.toNat).st=if S.u=S.g.S then 2 else if S.u=0 then 0 else 1))
 few:∀i,i<S.dr.dv.n->(S.dr.dv.zs i).st=1->(i:Int)=S.a\/(i:Int)=S.b
theorem Calm.sm(c:Calm S):Sm S.g:=Nw c.rt
theorem Yu(c:Calm S){z:Int}(h:0<=Bu S.g z):0<=z/\z.toNat<S.dr.dv.n/\S.dr.dv.has z=true/\z<=511:=by
 have j:=c.sm.d1;have h2:=c.sm.z1;have k:=c.sm.d0;have h4:=c.sm.z0;obtain⟨o,m1⟩:=Va (a:=S.g.D) (b:=S.g.Z) (A:=8) (B:=64) (by omega) (by omega) (by omega) (by omega);rcases Ko c.sm z with y|⟨_,_,_,f,p⟩
 ·omega
 ·have q:=c.n
  refine⟨f,by omega,?_,by omega⟩;unfold Dv.has;exact aM ⟨f,by omega⟩
theorem Aek {S:Lk}(h:S.ev = [])(i:Int):S.begin i=S:=by
 have hd:S.due=S:=by
  unfold Lk.due;rw[h];unfold A2w;rw[<-h]
 unfold Lk.begin;split
 ·exact hd
 ·rfl
theorem Ann(h:D.down=false){i:Int}(a:D.has i=true):D.Fs i=0:=by
 unfold Dv.Fs;rw[h,a];simp
theorem A2b(h:D.down=false){i:Int}(a:D.has i=true)(hs:(D.zs i.toNat).st<2)(b:¬D.op<=Wm D.zs D.n)(x:List EV):
 D.append i x=(D.tick.set i.toNat ((D.zs i.toNat).app D.size x),(((D.zs i.toNat).l.length:Nat):Int),0):=by
 unfold Dv.append;rw[Ann h a,aF (fun y=>y rfl),aF (fun y=>b y.2),aF (by omega)]
theorem Bb0(ev:S.dr.ev = [])(up:S.dr.dv.down=false){Aj Ba seq:Int}(a:(E9 { e with Ba:=Ba } Aj S.u Ap seq).2=0)(b:S.dr.dv.has Aj=true)(hs:(S.dr.dv.zs Aj.toNat).st<2)(f:¬S.dr.dv.op<=Wm S.dr.dv.zs S.dr.dv.n)
 (j:((S.dr.dv.zs Aj.toNat).l.length:Int)=S.u) :
 S.put e Aj Ba Ap seq=({ S with dr:={ S.dr with dv:=S.dr.dv.tick.set Aj.toNat ((S.dr.dv.zs Aj.toNat).app S.dr.dv.size (Aqo e Aj Ba S.u Ap seq)) } },0):=by
 unfold Mi.put Lk.append;rw[aF (fun y=>y a),Aek ev];have k:=A2b up b hs f (Bh (Vc (E9 { e with Ba:=Ba } Aj S.u Ap seq).1));simp only[k,j,aD,and_false,bD];rfl
noncomputable def Mi.Zq(S:Mi)(e:En)(Ap seq:Int):Mi:=
 { S with dr:={ S.dr with dv:=((S.dr.dv.tick.set S.a.toNat ((S.dr.dv.zs S.a.toNat).app S.dr.dv.size (Aqo e S.a S.b S.u Ap seq))).tick.set S.b.toNat ((S.dr.dv.zs S.b.toNat).app S.dr.dv.size (Aqo e S.b S.a S.u Ap seq))) },u:=S.u+1 }
def Roomy(S:Mi):Prop:=¬S.a = -1/\S.u<S.g.S
theorem Calm.ne(c:Calm S)(r:Roomy S):0<=Bu S.g S.a/\0<=Bu S.g S.b/\¬Bu S.g S.a=Bu S.g S.b/\0<=S.u/\S.a.toNat≠S.b.toNat /\
 (∀d,d<S.g.D.toNat->S.a ∉ S.ps d/\S.b ∉ S.ps d)/\(∀z,z=S.a\/z=S.b->((S.dr.dv.zs z.toNat).l.length:Int)=S.u/\(S.dr.dv.zs z.toNat).st=if S.u=0 then 0 else 1):=by
 rcases c.opn with y|⟨f,j,k,n,t,o,p⟩
 ·exact absurd y.1 r.1
 ·have v:=Yu c f
  have h2:=Yu c j;refine⟨f,j,k,n,fun y=>k ?_,o,fun z q=>?_⟩
  ·have:S.a=S.b:=by omega
   rw[this]
  ·have:=p z q
   have hu:=r.2;rw[aF (by omega)]at this;exact this
theorem Bku(c:Calm S)(r:Roomy S){seq:Int}(he:EOk e Ap seq):
 S.both e Ap seq=({ S.Zq e Ap seq with u:=S.u },S.b,0):=by
 obtain⟨p,q,n3,n4,t,L,k⟩:=c.ne r;obtain⟨o,O,v,a4⟩:=Yu c p;obtain⟨b1,b2,b3,b4⟩:=Yu c q;have hs:=c.sm;have:=hs.s1;have:=hs.o0;have P:=r.2;have B:=c.op;obtain⟨C,E⟩:=k _ (.inl rfl);obtain⟨lb,G⟩:=k _ (.inr rfl);have f1:=he.at (z:=S.a) (mt:=S.b) (off:=S.u) o (by omega) b1 (by omega) n4 (by omega);have f2:=he.at (z:=S.b) (mt:=S.a) (off:=S.u) b1 (by omega) o (by omega) n4 (by omega);have o1:¬S.dr.dv.op<=Wm S.dr.dv.zs S.dr.dv.n:=by
  have:=A0o (zs:=S.dr.dv.zs) (a:=S.a.toNat) (b:=S.b.toNat) S.dr.dv.n fun i j h=>by
   rcases c.few i j h with y|y<;>omega
  have H:(if S.a.toNat<S.dr.dv.n then 1 else 0)<=1:=by split<;>omega
  have h2:(if S.b.toNat<S.dr.dv.n then 1 else 0)<=1:=by split<;>omega
  omega
 have p1:=Bb0 c.ev c.up f1 v (by rw[E];split<;>omega) o1 C;unfold Mi.both;rw[p1,aF (fun y=>y rfl)];have f:(Ki S.dr.dv.zs S.a.toNat ((S.dr.dv.zs S.a.toNat).app S.dr.dv.size (Aqo e S.a S.b S.u Ap seq)) S.b.toNat)=S.dr.dv.zs S.b.toNat:=by
  unfold Ki;rw[aF (cV t)]
 have J:¬S.dr.dv.op<=Wm (Ki S.dr.dv.zs S.a.toNat ((S.dr.dv.zs S.a.toNat).app S.dr.dv.size (Aqo e S.a S.b S.u Ap seq))) S.dr.dv.n:=by
  have:=A0o (zs:=Ki S.dr.dv.zs S.a.toNat ((S.dr.dv.zs S.a.toNat).app S.dr.dv.size (Aqo e S.a S.b S.u Ap seq))) (a:=S.a.toNat) (b:=S.b.toNat) S.dr.dv.n fun i j h=>by
   unfold Ki at h;split at h
   ·rename_i y;exact .inl y
   ·rcases c.few i j h with y|y<;>omega
  have H:(if S.a.toNat<S.dr.dv.n then 1 else 0)<=1:=by split<;>omega
  have h2:(if S.b.toNat<S.dr.dv.n then 1 else 0)<=1:=by split<;>omega
  omega
 have p2:=Bb0 (S:={ S with dr:={ S.dr with dv:=S.dr.dv.tick.set S.a.toNat ((S.dr.dv.zs S.a.toNat).app S.dr.dv.size (Aqo e S.a S.b S.u Ap seq)) } }) (Aj:=S.b) (Ba:=S.a) c.ev c.up f2 b3
  (by show(Ki S.dr.dv.zs S.a.toNat _ S.b.toNat).st<2;rw[f,G];split<;>omega) J (by show((Ki S.dr.dv.zs S.a.toNat _ S.b.toNat).l.length:Int)=S.u;rw[f];exact lb)
 rw[p2];have e1:(({ S with dr:={ S.dr with dv:=S.dr.dv.tick.set S.a.toNat ((S.dr.dv.zs S.a.toNat).app S.dr.dv.size (Aqo e S.a S.b S.u Ap seq)) } }:Mi).dr.dv.zs S.b.toNat)=S.dr.dv.zs S.b.toNat:=f;rw[e1];rfl
noncomputable def Mi.Wn(S:Mi):Mi:={ S with dr:={ S.dr with dv:={ S.dr.dv.tick with zs:=fun i=>(S.dr.dv.zs i).flush } } }
theorem Aqi(ev:S.dr.ev = [])(up:S.dr.dv.down=false):S.dr.flush=(S.Wn.dr,0):=by
 have hd:S.dr.due=S.dr:=by
  unfold Lk.due;rw[ev];unfold A2w;rw[<-ev]
 unfold Lk.flush;rw[hd];unfold Dv.flush;rw[up];rfl
noncomputable def Mi.Awb(S:Mi):Option Mi:=
 open Classical in if Roomy S then some S else match Aj8 S.ps S.g.D.toNat with
  | none=>none
  | some (x,y,ps')=>some { S.Wn with ps:=ps',a:=x,b:=y,u:=0 }
theorem Z6(s:Sm g){x y:Int}(a:0<=Bu g x)(b:0<=Bu g y)(h:x.toNat=y.toNat):x=y:=by
 have:=Lc s a;have:=Lc s b;omega
theorem Bch {T:Mi}(c:Calm S)(h:S.Awb=some T):Calm T/\Roomy T/\T.g=S.g/\T.bad=S.bad/\T.dr.ev=S.dr.ev/\T.dr.Tw=S.dr.Tw:=by
 unfold Mi.Awb at h;split at h
 ·rename_i r
  cases h;exact⟨c,r,rfl,rfl,rfl,rfl⟩
 ·rename_i G
  cases hp:Aj8 S.ps S.g.D.toNat with
  | none=>rw[hp]at h;cases h
  | some t=>
   obtain⟨x,y,ps'⟩:=t;rw[hp]at h;cases h;obtain⟨i,j,H,hj,J,ex,p,B,_,_,W,X⟩:=Aoi c.wf.ps hp;have sub:∀d,d<S.g.D.toNat->∀z,z∈ps' d->z∈S.ps d/\z≠x/\z≠y:=fun d hd z f=>by
    have nd:=c.nd d hd;have key:z∈S.ps d:=by
     by_cases o:d=i
     ·subst o;rw[ex];exact aT _ f
     ·by_cases h2:d=j
      ·subst h2;rw[p];exact aT _ f
      ·rw[<-B d o h2];exact f
    have dz:=(c.wf.ps d hd z key).1;refine⟨key,fun v=>?_,fun v=>?_⟩
    ·subst v
     have:d=i:=by omega
     subst this;rw[ex]at nd;exact(cB.1 nd).1 f
    ·subst v
     have:d=j:=by omega
     subst this;rw[p]at nd;exact(cB.1 nd).1 f
   have L:x∈S.ps i:=by rw[ex];exact aX ..
   have O:y∈S.ps j:=by rw[p];exact aX ..
   have C:=c.fr i H x L;have E:=c.fr j hj y O;have s0:=c.sm.s0;have full:∀z:Int,(z=S.a\/z=S.b)->¬S.a = -1->(S.dr.dv.zs z.toNat).st=2:=fun z f q=>by
    rcases c.opn with y|⟨Y,Z,y3,y4,y5,y6,P⟩
    ·exact absurd y.1 q
    ·have:=(P z f).2
     have hu:S.u=S.g.S:=by
      rcases Decidable.em (S.u<S.g.S)with y|y
      ·exact absurd ⟨q,y⟩ G
      ·omega
     rw[aG hu]at this;exact this
   refine⟨⟨{ toWp:=⟨c.wf.sm,fun d hd z f=>c.wf.ps d hd z (sub d hd z f).1⟩,op:=.inr ⟨⟨by show 0<=Bu S.g x;omega,c.bad _⟩,⟨by show 0<=Bu S.g y;omega,c.bad _⟩⟩ },c.rt,c.ev,c.up,c.n,c.size,c.op,c.bad,fun d hd=>?_,fun d hd z f=>c.fr d hd z (sub d hd z f).1,.inr ⟨by show 0<=Bu S.g x;omega,by show 0<=Bu S.g y;omega,by show ¬Bu S.g x=Bu S.g y;omega,cb _,by show 0<=S.g.S;omega,fun d hd=>⟨fun f=>(sub d hd x f).2.1 rfl,fun f=>(sub d hd y f).2.2 rfl⟩,fun z f=>?_⟩,fun k U hs=>?_⟩,⟨?_,by show 0<S.g.S;omega⟩,rfl,rfl,rfl,rfl⟩
   ·show(ps' d).Nodup
    have nd:=c.nd d hd;by_cases o:d=i
    ·subst o;rw[ex]at nd;exact(cB.1 nd).2
    ·by_cases h2:d=j
     ·subst h2;rw[p]at nd;exact(cB.1 nd).2
     ·rw[B d o h2];exact nd
   ·show(((S.dr.dv.zs z.toNat).flush.l.length:Nat):Int)=0/\((S.dr.dv.zs z.toNat).flush).st=if(0:Int)=S.g.S then 2 else if(0:Int)=0 then 0 else 1
    rw[aF (by omega),aG rfl];have f:z=x\/z=y:=f;rcases f with f|f
    ·subst f;exact⟨by show(((S.dr.dv.zs z.toNat).l.length:Nat):Int)=0;rw[C.1];rfl,C.2⟩
    ·subst f;exact⟨by show(((S.dr.dv.zs z.toNat).l.length:Nat):Int)=0;rw[E.1];rfl,E.2⟩
   ·exfalso
    have hs:(S.dr.dv.zs k).st=1:=hs;have V:=c.few k U hs;have q:¬S.a = -1:=fun y=>by
     rcases c.opn with z|z
     ·omega
     ·rw[y]at z
      have:=Lc c.sm z.1;omega
    have:=full k V q;rw[show((k:Nat):Int).toNat=k from rfl]at this;omega
   ·have:=Lc c.sm (z:=x) (by omega)
    show ¬x = -1;omega
theorem Calm.Zq(c:Calm S)(r:Roomy S)(e:En)(Ap seq:Int):Calm (S.Zq e Ap seq):=by
 obtain⟨p,q,n3,n4,B,t,C⟩:=c.ne r;have E:=c.size;have s0:=c.sm.s0;have L:=r.2;have G:((S.Zq e Ap seq).dr.dv.zs S.a.toNat)=(S.dr.dv.zs S.a.toNat).app S.dr.dv.size (Aqo e S.a S.b S.u Ap seq):=by
  show Ki (Ki S.dr.dv.zs S.a.toNat _) S.b.toNat _ S.a.toNat=_;unfold Ki;rw[aF B,aG rfl]
 have H:((S.Zq e Ap seq).dr.dv.zs S.b.toNat)=(S.dr.dv.zs S.b.toNat).app S.dr.dv.size (Aqo e S.b S.a S.u Ap seq):=by
  show Ki (Ki S.dr.dv.zs S.a.toNat _) S.b.toNat _ S.b.toNat=_;unfold Ki;rw[aG rfl]
 have v:∀i,i≠S.a.toNat->i≠S.b.toNat->((S.Zq e Ap seq).dr.dv.zs i)=S.dr.dv.zs i:=fun i k h2=>by
  show Ki (Ki S.dr.dv.zs S.a.toNat _) S.b.toNat _ i=_;unfold Ki;rw[aF h2,aF k]
 have o:∀z x,z=S.a\/z=S.b->(((S.dr.dv.zs z.toNat).app S.dr.dv.size x).l.length:Int)=S.u+1/\((S.dr.dv.zs z.toNat).app S.dr.dv.size x).st=if S.u+1=S.g.S then 2 else if S.u+1=0 then 0 else 1:=fun z x f=>by
  obtain⟨l,s⟩:=C z f;refine⟨by simp only[Zn.app,aH,List.length_singleton];omega,?_⟩;simp only[Zn.app];by_cases h:S.u+1=S.g.S
  ·rw[aG h,aG (by omega)]
  ·rw[aF h,aF (by omega),aF (by omega)]
 refine⟨{ toWp:=⟨c.wf.sm,c.wf.ps⟩,op:=c.wf.op },c.rt,c.ev,c.up,c.n,c.size,c.op,c.bad,c.nd,fun d hd x j=>?_,.inr ⟨p,q,n3,by show 0<=S.u+1;omega,by show S.u+1<=S.g.S;omega,t,fun z f=>?_⟩,fun i J hs=>?_⟩
 ·have j:x∈S.ps d:=j
  have O:=(c.wf.ps d hd x j).1;have k:x≠S.a:=fun y=>(t d hd).1 (y▸j)
  have h2:x≠S.b:=fun y=>(t d hd).2 (y▸j)
  rw[v _ (fun y=>k (Z6 c.sm (by omega) p y)) (fun y=>h2 (Z6 c.sm (by omega) q y))];exact c.fr d hd x j
 ·have f:z=S.a\/z=S.b:=f
  show((((S.Zq e Ap seq).dr.dv.zs z.toNat).l.length:Nat):Int)=S.u+1/\((S.Zq e Ap seq).dr.dv.zs z.toNat).st=if S.u+1=S.g.S then 2 else if S.u+1=0 then 0 else 1
  rcases f with f|f
  ·subst f;rw[G];exact o _ _ (.inl rfl)
  ·subst f;rw[H];exact o _ _ (.inr rfl)
 ·show(i:Int)=S.a\/(i:Int)=S.b
  have P:=Lc c.sm p;have T:=Lc c.sm q;by_cases k:i=S.a.toNat
  ·exact .inl (by omega)
  ·by_cases h2:i=S.b.toNat
   ·exact .inr (by omega)
   ·rw[v i k h2]at hs
    exact c.few i J hs
theorem Bgo(c:Calm S):S.ready=match S.Awb with|some T=>(T,0)|none=>(S.Wn,40):=by
 have b:=Aqi c.ev c.up;unfold Mi.ready Mi.Awb;by_cases r:Roomy S
 ·rw[aG r]
  simp only[r,bM];exact aG r
 ·simp only[r,bD]
  rw[aF (show ¬(¬S.a = -1/\S.u<S.g.S)from r),b];simp only[aD,bD];cases Aj8 S.ps S.g.D.toNat with
  | none=>rfl
  | some t=>rfl
theorem Bgf(c:Calm S){seq:Int}(he:EOk e Ap seq):S.place e Ap seq=match S.Awb with
 | some T=>(T.Zq e Ap seq,⟨1,T.a,T.b,T.u,seq,Ga e.bytes⟩,0)
 | none=>(S.Wn,Me.zero,40):=by
 unfold Mi.place;rw[aF (fun y=>y he)];show Mi.Ye e Ap seq (999+1) S=_;unfold Mi.Ye;rw[Bgo c];cases j:S.Awb with
 | none=>rfl
 | some T=>
  obtain⟨f,rT,_⟩:=Bch c j;simp only[aD,bD];rw[Bku f rT he,aG rfl];have:=f.sm.s1;have hu:=rT.2;have k:=(f.ne rT).2.2.2.1;have:(({ T.Zq e Ap seq with u:=T.u }:Mi).Aws)=T.Zq e Ap seq:=by
   unfold Mi.Aws;simp only;rw[Cj];rfl
  rw[this];rfl
noncomputable def Mi.Ala(S:Mi)(z:Int):Mi:={ S with ps:=(Abk S.g S.g.D.toNat S.ps z).2 }
theorem Mi.Wf.Ala(w:S.Wf){z:Int}(a:0<=Bu S.g z->¬S.bad z.toNat=1):(S.Ala z).Wf:={ toWp:=⟨w.sm,A7p w.ps _ _ a⟩,op:=w.op }
section
variable(M:Dd h m S F)(hb:HB h)
include M
theorem Ss(hb:HB h):Ok (Ch K (.ptr m 0) h) fun v h'=>v=gV S.g/\Ext h h':=by
 obtain⟨_,D,p,bl,ql,np,q,c,G,a⟩:=M.s;exact A39 a.Kk hb
theorem A1c:K9 K (.ptr m 0) h=some (.tuple [I S.a,I S.b,I S.u],h):=by
 obtain⟨_,D,p,bl,ql,np,q,c,G,a⟩:=M.s;exact A4w a.Kk
include hb
theorem Bdc(A:Bj disp)(hK:10000<K):∃p,Ce K (.ptr m 0) h=some (.ptr p 0,h)/\∀{d:Nat},8<=d->∀{z:Int},Rng z->(0<=Bu S.g z->¬S.bad z.toNat=1) ->
 Ok (Ae TT disp K d false 56 [.ptr p 0,I z] h) fun v h'=>v=I (Abk S.g S.g.D.toNat S.ps z).1/\Dd h' m (S.Ala z) F/\Kf F h h'/\HB h':=by
 obtain⟨lt,D,p,bl,ql,np,q,c,G,a⟩:=M.s;refine⟨p,Yj a.Kk,fun {d} hd {z} j k=>?_⟩;have b:=a.psz.nd;subst b;refine(Bjd (K:=K) A a.Hp hb a.psz (by omega) hd z j).mono ?_;rintro v h' ⟨c3,f,rfl,n,o⟩;obtain⟨t,cH⟩:=a.Ave hb n o c3;obtain⟨u,y⟩:=M.made (W7.mono (H:=Out F h) ⟨fun i B=>aK B.1 cH.next,D,p,bl,ql,_,q,c,G,t⟩ (fun _=>.inl) (Bg.lt lt cH.next)) cH (M.wf.Ala k);exact⟨rfl,u,y,f⟩
end
structure Bd7(S:Mi):Prop where
 calm:Calm S
 cl:S.a = -1/\S.b = -1
 zs:∀i,S.dr.dv.zs i=Zn.empty
theorem Ble(b:rtB g=true):Bd7 (Mi.new g):=by
 have s:=Nw b;refine⟨⟨{ toWp:=⟨s,fun d _ x a=>(by cases a)⟩,op:=.inl ⟨rfl,rfl⟩ },b,rfl,rfl,rfl,rfl,rfl,fun i y=>(by cases y),fun d _=>cq,fun d _ x a=>(by cases a),.inl ⟨rfl,rfl⟩,fun i _ y=>(by cases y)⟩,⟨rfl,rfl⟩,fun _=>rfl⟩
theorem Bd7.Ala(f:Bd7 S)(z:Int):Bd7 (S.Ala z):=by
 have c:=f.calm;have nd:∀d,d<S.g.D.toNat->((S.Ala z).ps d).Nodup:=fun d hd=>by
  show((Abk S.g S.g.D.toNat S.ps z).2 d).Nodup;unfold Abk;split
  ·exact c.nd d hd
  ·split
   ·exact c.nd d hd
   ·rename_i h0 j
    split
    ·simp only[upd]
     split
     ·rename_i e
      rw[List.nodup_append];refine⟨by rw[<-e];exact c.nd d hd,by simp,fun a k b hb y=>?_⟩;rw[aO.1 hb]at y;subst y;exact j (J9.2 ⟨d,hd,by rw[e];exact k⟩)
     ·exact c.nd d hd
    ·exact c.nd d hd
 refine⟨⟨c.wf.Ala fun _=>c.bad _,c.rt,c.ev,c.up,c.n,c.size,c.op,c.bad,nd,fun d hd x o=>?_,.inl f.cl,c.few⟩,f.cl,f.zs⟩;show(S.dr.dv.zs x.toNat).l = []/\(S.dr.dv.zs x.toNat).st=0;rw[f.zs];exact⟨rfl,rfl⟩
theorem Bko(w:e.Wf){Aj seq:Int}(f:(E9 { e with Ba:=mt } Aj off Ap seq).2=0)(j:x.off=off):
 Ayi (Vc (E9 { e with Ba:=mt } Aj off Ap seq).1) x Aj mt=if ¬e.kind=2/\seq=x.seq/\((Ga e.bytes:Nat):Int)=x.sum then(true,e.bytes)else(false,Dp):=by
 have w':({ e with Ba:=mt }:En).Wf:=⟨w.len,w.u8⟩;obtain⟨k,h2,n,h4⟩:=Ayv w' f;have a:=A06 w' Aj off Ap seq;rw[k]at a⊢;have b:=Bps a h2;subst j;unfold Ayi;simp only at b;rw[b];simp only[h4,gO]
theorem Au5(ev:S.dr.ev = [])(up:S.dr.dv.down=false)(w:e.Wf){Aj seq:Int}(f:(E9 { e with Ba:=mt } Aj off Ap seq).2=0)(b:x.off=off)
 (j:S.dr.dv.has Aj=true) (hs:¬(S.dr.dv.zs Aj.toNat).st=4) (h0:0<=off) (a:(S.dr.dv.zs Aj.toNat).l[off.toNat]? = some (Aqo e Aj mt off Ap seq)) :
 S.Dy x Aj mt=({ S with dr:={ S.dr with dv:=S.dr.dv.tick } },(if ¬e.kind=2/\seq=x.seq/\((Ga e.bytes:Nat):Int)=x.sum then(true,e.bytes)else(false,Dp)).2,(if ¬e.kind=2/\seq=x.seq/\((Ga e.bytes:Nat):Int)=x.sum then(true,e.bytes)else(false,Dp)).1,0):=by
 have hlen:off.toNat<(S.dr.dv.zs Aj.toNat).l.length:=by
  rcases cZ off.toNat (S.dr.dv.zs Aj.toNat).l.length with y|y
  ·exact y
  ·rw[cA y]at a;cases a
 have k:S.dr.read Aj off=({ S.dr with dv:=S.dr.dv.tick },Aqo e Aj mt off Ap seq,0):=by
  unfold Lk.read;rw[Aek ev];unfold Dv.begin Dv.read;rw[Ann up j,aG rfl,aF (fun y=>y rfl)];unfold Ak4;rw[aF hs,aG (by omega),a];rfl
 unfold Mi.Dy;rw[b,k];simp only[bM];have n:=Bko w f b;rw[show An8 (Aqo e Aj mt off Ap seq)=Vc (E9 { e with Ba:=mt } Aj off Ap seq).1 from Aww _,n]
theorem Bc3(a:rtB g=true){z:Int}(f:0<=Bu g z)(h0:0<=off)(j:off<g.S):Xo g z off=true:=by
 unfold Xo;rcases Ko (Nw a) z with y|⟨_,_,_,b,k⟩
 ·omega
 ·rw[a,Fl.2 ⟨b,by omega⟩,Fl.2 ⟨h0,by omega⟩];rfl
end Go.Ev
