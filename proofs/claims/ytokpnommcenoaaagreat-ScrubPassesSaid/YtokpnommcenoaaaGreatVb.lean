import Derived.Test.YtokpnommcenoaaaGreatVa
import Derived.Test.YtokpnommcenoaaaGreatIn
set_option linter.all false
namespace Go.Ev
open Go.Proofs
set_option maxRecDepth 100000
variable {x:Me}{h:Ab}{D K d i m:Nat}{S:Mi}{F:Nat->Prop}{ih:EV->EV->EV->EV->EV->EV->EV->EV->Ab->R}{Q:EV->Ab->Prop}{e:Lo}{L:List Lo}{disp:Nat->Option FT}
def Buj:EV->Nat
 | .int _ n=>n.toNat
 | _=>0
def Ag5(x:List EV):List Nat:=x.map Buj
theorem A2z(l:List Nat):Ag5 (Bj l)=l:=by
 unfold Ag5 Bj;rw[List.map_map];exact(cZ (fun a _=>rfl)).trans (List.map_id l)
theorem U8.Buc {x:List EV}(u:U8 x):Bj (Ag5 x)=x/\∀b∈Ag5 x,b<256:=by
 obtain⟨l,h,rfl⟩:=u;rw[A2z];exact⟨rfl,h⟩
theorem A0w(x:List EV):(Ag5 x).length=x.length:=bZ ..
theorem Ahu{t n:Nat}{l:List EV}{v w:EV}(a:h.get i=some (.cells l t))(hs:TT.size t=some n)(b:TT.agg t=some true)(f:l.length=n):Ij TT [.c (.ptr i 0) t,.v v,.v w] h=some (.tuple [.agg l,v,w],h):=by
 have g:I5 h i 0 n=some l:=by
  unfold I5;rw[a];simp only;rw[<-Ai5];exact Aj f
 unfold Ij;simp only[Azs,hs,g,b]
noncomputable def A1l(s:List Nat)(x:Me)(An Bv:Int):Bool × List Nat:=
 if(atF s An x.off).2=0/\¬(atF s An x.off).1.kind=2/\(atF s An x.off).1.seq=x.seq/\(Vs (atF s An x.off).1).2=0/\(Vs (atF s An x.off).1).1.Bv=Bv/\((F2 (Vs (atF s An x.off).1).1.bytes:Nat):Int)=x.sum
 then(true,(Vs (atF s An x.off).1).1.bytes)else(false,D5)
noncomputable def Mi.Dz(S:Mi)(x:Me)(An Bv:Int):Mi × List Nat × Bool × Int:=
 if(S.dr.read An x.off).2.2=0 then({ S with dr:=(S.dr.read An x.off).1 },(A1l (Ag5 (S.dr.read An x.off).2.1) x An Bv).2,(A1l (Ag5 (S.dr.read An x.off).2.1) x An Bv).1,0)else
 if(S.dr.read An x.off).2.2=34 then({ S with dr:=(S.dr.read An x.off).1 },D5,false,34)else
 if(S.dr.read An x.off).2.2=32 then((({ S with dr:=(S.dr.read An x.off).1 }:Mi).Bx An).1,D5,false,if(({ S with dr:=(S.dr.read An x.off).1 }:Mi).Bx An).2=34 then 34 else 0)else
 ({ S with dr:=(S.dr.read An x.off).1 },D5,false,0)
theorem Bok(A:By disp)(hK:10000<K)(hd:19<=d)(M:Dd h m S F)(hb:HB h){z:Int}(g:Rs z):
 Ok (Ag TT disp K d false 228 [.ptr m 0,I z] h) fun v h'=>v=I (if(S.Bx z).2=34 then 34 else 0)/\Dd h' m (S.Bx z).1 F/\Kf F h h'/\HB h':=by
 obtain⟨e,rfl⟩:∃k,d=k+1:=⟨d-1,by omega⟩;rw[Amt A (by omega)];simp only[Afp,dr];refine(Ya A hK M hb (by omega) g).Am ?_;rintro _ j ⟨rfl,b,f,a⟩;simp only[I,Ac,Zy];by_cases h0:(S.Bx z).2=34
 ·simp only[h0,aB,Aa,bI]
  exact .ret ⟨rfl,b,f,a⟩
 ·simp only[h0,aA,Aa,aY]
  exact .ret ⟨rfl,b,f,a⟩
theorem Asi:TT.size 85=some 32/\TT.agg 85=some true:=⟨by kernel_rfl,by kernel_rfl⟩
theorem Acn:D5.length=32:=rfl
theorem A99 {f:Fr}(w:f.Wf):(Vs f).1.Wf:=by
 unfold Vs;split
 ·exact En.Gp
 ·split
  ·exact En.Gp
  ·exact Bku w.len w.u8
theorem Bkn {s:List Nat}(a:s.length=64)(hu:∀b∈s,b<256)(x:Me)(An Bv:Int)(w:(atF s An x.off).1.Wf):(A1l s x An Bv).2.length=32/\∀b∈(A1l s x An Bv).2,b<256:=by
 unfold A1l;split
 ·exact⟨(A99 w).len,(A99 w).u8⟩
 ·exact⟨rfl,fun b hb=>by rw[bc hb];decide⟩
theorem Bbc(A:By disp)(hK:10000<K)(hd:20<=d)(M:Dd h m S F)(hb:HB h)(x:Me){An:Int}(hz:Rs An)(Bv:Int):
 Ok (Ag TT disp K d false 180 [.ptr m 0,.agg x.cells,I An,I Bv] h) fun v h'=>v=.tuple [.agg (Bj (S.Dz x An Bv).2.1),.bool (S.Dz x An Bv).2.2.1,I (S.Dz x An Bv).2.2.2]/\(S.Dz x An Bv).2.1.length=32/\(∀b∈(S.Dz x An Bv).2.1,b<256)/\Dd h' m (S.Dz x An Bv).1 F/\Kf F h h'/\HB h':=by
 obtain⟨dd,rfl⟩:∃k,d=k+1:=⟨d-1,by omega⟩;rw[Am6 A (by omega)];simp only[Ag6,Aa];rw[show(h.new (.cells x.cells 53)).next=h.next+1 from rfl,Ga];have x1:Ext h ((h.new (.cells x.cells 53)).new (.cells (Bj D5) 85)):=(As.new _ _).Da _;have B:((h.new (.cells x.cells 53)).new (.cells (Bj D5) 85)).get h.next=some (.cells x.cells 53):=by
  rw[Az _ (aR _)];exact Ad _ _
 have u:((h.new (.cells x.cells 53)).new (.cells (Bj D5) 85)).get (h.next+1)=some (.cells (Bj D5) 85):=Ad _ _;have n1:((h.new (.cells x.cells 53)).new (.cells (Bj D5) 85)).next=h.next+2:=rfl
 generalize (h.new (.cells x.cells 53)).new (.cells (Bj D5) 85)=Y at x1 B u n1⊢;have O:=x1.hb hb;have M1:=M.ext hb x1;obtain⟨_,D,p,bl,ql,np,q,c,G,a⟩:=M1.s;have lm:=O _ _ a.Hi.Hi;have l5:=O _ _ B;have F5:Bi F h Y h.next:=.inr ⟨aD _,by omega⟩
 have F8:Bi F h Y (h.next+1):=.inr ⟨by omega,by omega⟩;rw[G2 lm,a.Hi.Dc]
 try simp only[Aa,Ar]
 rw[G2 l5,Ah B rfl (v:=I x.off) rfl]
 try simp only[Aa,Ar]
 refine Ok.bC (S:=G) (Aym (K:=K) A (d:=dd) (by omega) (fun k hk=>A0o A (by omega) S.dr k hk) a.drv.lift (Db O) An x.off) (fun _ _ p=>p.2.2.2.1) ?_;rintro _ h2 h3 s' ⟨rfl,hlen,d2,_,bn⟩ sm c3 bo;have Z:=sm.hb bn;have bp:U8 (S.dr.read An x.off).2.1:=by
  obtain⟨V,M',qc,qh,cs,hs,ms,F',a'⟩:=d2.Mw;have w:=a'.dev.wf;have wz:∀i,i<(S.dr.begin An).dv.n->((S.dr.begin An).dv.zs i).Wf (S.dr.begin An).dv.size:=by
   have e1:(S.dr.read An x.off).1.dv=(S.dr.begin An).dv.begin An:=rfl;rw[e1]at w;unfold Dv.begin at w;split at w
   ·exact w.zs
   ·exact w.zs
  show U8 (Dv.read _ An x.off).1;unfold Dv.read;split
  ·exact U8.zs
  ·rename_i bt
   obtain⟨j,rfl,hj⟩:=Dv.A14 (show(S.dr.begin An).dv.Er An=0 by
    rcases Decidable.em ((S.dr.begin An).dv.Er An=0)with y|y
    ·exact y
    ·exact absurd y bt)
   unfold Aft;split
   ·exact U8.zs
   ·split
    ·rename_i hc
     have:x.off.toNat<((S.dr.begin (j:Int)).dv.zs j).l.length:=by
      have:=hc.2;rw[bG]at this;omega
     rw[bG,aH this];exact(wz j hj).u8 _ (av _)
    ·exact U8.zs
 obtain⟨M3,k3⟩:=M1.drv O a (d2.same sm) c3;have B:=k3.at O B F5;have u:=k3.at O u F8;obtain⟨hs,X⟩:=bp.Buc;have H:(Ag5 (S.dr.read An x.off).2.1).length=64:=by rw[A0w,hlen]
 unfold Mi.Dz;rw[<-hs];generalize hR:S.dr.read An x.off=R at M3 hs X H⊢;obtain⟨dr,sec,W⟩:=R;simp only at M3 hs X H⊢;rw[A2z];generalize Ag5 sec=s at hs X H⊢;simp only[Aa,Ar];rw[Gt (by rcases bo with rfl|⟨w,rfl,_⟩<;>kernel_rfl)];have ul:(Bj s).length=64:=by rw[Bg,H]
 refine Ok.st (Bj s) (Ad _ _) rfl (by show Fl (Bj s)=64;rw[Bf,ul]) (Bl (by rw[bT];exact ul.symm)) ?_;obtain⟨h4,e_,x4,aq,_⟩:=nP h3 (.cells (List.replicate 64 (EV.int .u8 0)) 30) (.cells (Bj s) 30);rw[e_];have g:=x4.hb Z;have B:=x4.at Z B;have u:=x4.at Z u;have M4:=(M3.ext Z x4).less fun i (P:Bi F h Y i)=>Or.inl P
 have aa:Kf F h h4:=(x1.Auj k3).trans x4.kf;have ln:h.next+2<=h4.next:=by have:=x4.next;have:=k3.next;omega
 have sub:∀i,F i->Bi F h Y i:=fun i P=>.inl P
 have fin:∀(l:List Nat) (ok:Bool) (W:Int) (o:Ab) (S5:Mi),l.length=32->(∀b∈l,b<256)->Dd o m S5 (Bi F h Y)->Kf F h o->HB o->o.get (h.next+1)=some (.cells (Bj D5) 85) ->
  Ok (stE 32 (.ptr (h.next+1) 0) (.agg (Bj l)) o fun h'=>Ij TT [.c (.ptr (h.next+1) 0) 85,.v (.bool ok),.v (I W)] h') fun v h'=>v=.tuple [.agg (Bj l),.bool ok,I W]/\l.length=32/\(∀b∈l,b<256)/\Dd h' m S5 F/\Kf F h h'/\HB h':=by
  intro l ok W o S5 hl bw M5 k5 E ab;have ul:(Bj l).length=32:=by rw[Bg,hl]
  have l8:=E _ _ ab;refine Ok.st (Bj l) ab rfl (by show Fl (Bj l)=32;rw[Bf,ul]) (Bl (by show(Bj D5).length=(Bj l).length;rw[ul,Bg,Acn])) ?_;rw[Ahu (Af _ _ _) Asi.1 Asi.2 ul];have nF:¬F (h.next+1):=fun y=>by have:=M.lt _ y;omega
  have c8:As (fun i=>i=h.next+1) o (o.put (h.next+1) (.cells (Bj l) 85)):=(As.refl (S:=fun i=>i=h.next+1) o).Ao (.inl rfl) l8 _;exact .ret ⟨rfl,hl,bw,(M5.Afg c8 fun i P _=>P▸F8).less sub,k5.trans (c8.mono fun i P y=>nF (P▸y)),E.put l8 _⟩
 have no:∀(W:Int) (o:Ab) (S5:Mi),Dd o m S5 (Bi F h Y)->Kf F h o->HB o->o.get (h.next+1)=some (.cells (Bj D5) 85) ->
  Ok (Bm (Ll 1) (List.replicate 32 (EV.int .u8 0)) [] fun v=>stE 32 (.ptr (h.next+1) 0) v o fun h'=>Ij TT [.c (.ptr (h.next+1) 0) 85,.v (.bool false),.v (I W)] h') fun v h'=>v=.tuple [.agg (Bj D5),.bool false,I W]/\D5.length=32/\(∀b∈D5,b<256)/\Dd h' m S5 F/\Kf F h h'/\HB h':=fun W o S5 M5 k5 E ab=>by
  rw[Ga,Aw (l:=Bj D5) rfl];exact fin D5 false W o S5 rfl (fun b hb=>by rw[bc hb];decide) M5 k5 E ab
 simp only[I,Ac];by_cases h0:W=0
 ·rw[aQ h0]
  simp only[h0,aB,Aa,Aab];have bx:=g _ _ aq;have bz:=g _ _ B;obtain⟨_,D,p,bl,ql,np,q,c,G,a⟩:=M4.s;have b5:=g _ _ a.Hi.Hi
  try simp only[Ar]
  rw[G2 b5,a.Hi.table]
  try simp only[Aa,Ar]
  rw[G2 bx,Cz aq rfl,Aj ul]
  try simp only[Aa,Ar]
  rw[G2 bz,Ah B rfl (v:=I x.off) rfl]
  try simp only[Aa,Ar]
  refine Ok.bE (Ay3 (K:=K) H X (Db g) hK An x.off) (fun _ _ p=>p.2.2) ?_;rintro _ dD o ⟨rfl,fw,_⟩ _ x5;have gw:=Bkn H X x An Bv fw;have C:A1l s x An Bv=if(atF s An x.off).2=0/\¬(atF s An x.off).1.kind=2/\(atF s An x.off).1.seq=x.seq/\(Vs (atF s An x.off).1).2=0/\(Vs (atF s An x.off).1).1.Bv=Bv/\((F2 (Vs (atF s An x.off).1).1.bytes:Nat):Int)=x.sum
   then(true,(Vs (atF s An x.off).1).1.bytes)else(false,D5):=rfl
  generalize A1l s x An Bv=gd at C gw⊢;generalize atF s An x.off=Mw at fw C⊢;obtain⟨f,b6⟩:=Mw;simp only at fw C⊢;have E:=x5.hb g;have fl:=Fr.Ba fw;have zl:=Fr.Ba Fr.Gp;simp only[Aa,Au1,Ar];rw[Gt];refine Ok.st f.cells (Ad _ _) rfl (by show Fl f.cells=49;rw[Bf,fl]) (Bl (by rw[zl];exact fl.symm)) ?_;obtain⟨h6,e_,x6,ad,_⟩:=nP o (.cells Fr.zero.cells 247) (.cells f.cells 247);rw[e_];have T:=x6.hb E;have ae:Ext h4 h6:=x5.trans x6;have B:=ae.at g B;have u:=ae.at g u;have M6:=(M4.ext g ae).less fun i (P:Bi F h Y i)=>Or.inl P
  have ay:Kf F h h6:=aa.trans ae.kf;have stop:=no 0 h6 _ M6 ay T u;have l0:f.cells[0]? = some (I f.kind):=rfl;have l4:f.cells[4]? = some (I f.seq):=rfl;simp only[I,Ac]at stop⊢;by_cases c1:b6=0
  ·by_cases c2:f.kind=2
   ·rw[aM (by rintro⟨_,y,_⟩;exact y c2)]at C;subst C
    simp only[c1,aC,aA,Aa,C0 ad rfl,l0,I,Ac,c2,aB,Is,Iv];exact stop
   ·by_cases c3:f.seq=x.seq
    ·simp only[c1,aC,aA,Aa,C0 ad rfl,l0,I,Ac,c2,Is,l4,Iv]
     rw[Ah B rfl (v:=I x.seq) rfl];simp only[I,Ac,c3,aC,aA,Aa,Zr];rw[Cz ad rfl,Aj fl]
     try simp only[Aa]
     refine(A30 (K:=K) fw T hK).Am ?_;rintro _ h7 ⟨rfl,J,x7⟩;generalize Vs f=re at J C⊢;obtain⟨e,b8⟩:=re;simp only at J C⊢;have ca:=x7.hb T;have el:=En.Ba J;have cb:=En.Ba En.Gp;simp only[Aa];rw[En.H2];refine Ok.st e.cells (Ad _ _) rfl (by show Fl e.cells=38;rw[Bf,el]) (Bl (by rw[cb];exact el.symm)) ?_;obtain⟨h8,e_,x8,U,_⟩:=nP h7 (.cells En.zero.cells 203) (.cells e.cells 203);rw[e_];have t:=x8.hb ca;have af:Ext h6 h8:=x7.trans x8;have B:=af.at T B;have u:=af.at T u;have M8:=(M6.ext T af).less fun i (P:Bi F h Y i)=>Or.inl P
     have a1:Kf F h h8:=ay.trans af.kf;have stop:=no 0 h8 _ M8 a1 t u;have cf:=t _ _ U;have ch:=t _ _ B;simp only[I,Ac]at stop⊢;by_cases c4:b8=0
     ·simp only[c4,aC,aA,Aa,Ar]
      rw[G2 cf,Ah U rfl (v:=I e.Bv) rfl];simp only[I,Ac];by_cases c5:e.Bv=Bv
      ·simp only[c5,aC,aA,It,Aa,Ar]
       obtain⟨_,D,p,bl,ql,np,q,c,G,a⟩:=M8.s;have cl:=t _ _ a.Hi.Hi;rw[G2 cl,a.Hi.table]
       try simp only[Aa,Ar]
       rw[show ∀k:EV->R,N1 32 1 (.ptr h7.next 6) none none none k=k (.slice h7.next 6 32 32 false)from fun k=>rfl]
       try simp only[Aa,Ar]
       have bs:Bs h8.lift (.slice h7.next 6 32 32 false) h7.next 6 e.bytes:=by
        refine⟨32,false,_,e.cells,by rw[J.len],by rw[J.len];omega,by rw[Br];exact U,rfl,by rw[el,J.len];exact aD _,?_⟩;unfold En.cells;rw[J.len];show(Bj e.bytes).take 32=_;rw[bR (by rw[Bg,J.len];omega)]
       refine Ok.bE (A7n (K:=K) hK bs (Db t) J.u8 (by rw[J.len];omega)) (fun _ _ p=>p.2) ?_;rintro _ eb h9 ⟨rfl,_⟩ _ x9;have a2:=x9.hb t;have B:=x9.at t B;have u:=x9.at t u;have U:=x9.at t U;have M9:=(M8.ext t x9).less fun i (P:Bi F h Y i)=>Or.inl P
       have a5:Kf F h h9:=a1.trans x9.kf;have stop:=no 0 h9 _ M9 a5 a2 u;have H:=Bcb J.u8;simp only[Nk,Aa,Ar];rw[show Cx .i64 (Int.ofNat (F2 e.bytes))=(F2 e.bytes:Int)from Ci (by show -9223372036854775808<=((F2 e.bytes:Nat):Int);omega) (by show((F2 e.bytes:Nat):Int)<=_;omega)];rw[G2 ch,Ah B rfl (v:=I x.sum) rfl];simp only[I,Ac]at stop⊢;by_cases c6:((F2 e.bytes:Nat):Int)=x.sum
       ·rw[aQ ⟨c1,c2,c3,c4,c5,c6⟩]at C;subst C
        simp only[c6,aC,aA,Gi,Aa,Z8];rw[Cz U rfl,show Mu e.cells (0+6) 32=some (Bj e.bytes)from by
         rw[E7 (by rw[el];omega)];show some ((Bj e.bytes).take 32)=_;rw[bR (by rw[Bg,J.len];omega)]]
        try simp only[Aa]
        exact fin e.bytes true 0 h9 _ J.len J.u8 M9 a5 a2 u
       ·rw[aM (by rintro⟨_,_,_,_,_,y⟩;exact c6 y)]at C;subst C
        simp only[c6,aE,aB,Gi,Aa];exact stop
      ·rw[aM (by rintro⟨_,_,_,_,y,_⟩;exact c5 y)]at C;subst C
       simp only[c5,aE,aB,It,Aa,Gi];exact stop
     ·rw[aM (by rintro⟨_,_,_,y,_⟩;exact c4 y)]at C;subst C
      simp only[c4,aE,aB,It,Aa,Gi];exact stop
    ·rw[aM (by rintro⟨_,_,y,_⟩;exact c3 y)]at C;subst C
     simp only[c1,aC,aA,Aa,C0 ad rfl,l0,I,Ac,c2,Is,l4,Iv];rw[Ah B rfl (v:=I x.seq) rfl];simp only[I,Ac,c3,aE,aB,Aa];exact stop
  ·rw[aM (by rintro⟨y,_⟩;exact c1 y)]at C;subst C
   simp only[c1,aE,aB,Aa,Is,Iv];exact stop
 ·rw[aM h0]
  simp only[h0,aA,Aa,Ac];by_cases ag:W=34
  ·rw[aQ ag]
   simp only[ag,aB,Aa];exact no 34 h4 _ M4 aa g u
  ·rw[aM ag]
   simp only[ag,aA,Aa,Ac];by_cases ah:W=32
   ·rw[aQ ah]
    simp only[ah,aB,Aa];rw[Aw (l:=Bj D5) rfl];refine(Bok A hK (by omega) M4 g hz).Am ?_;rintro _ o ⟨rfl,M5,k5,E⟩;have u:=k5.at g u F8;have cx:Kf F h4 o:=k5.less sub;exact fin D5 false _ o _ rfl (fun b hb=>by rw[bc hb];decide) M5 (aa.trans cx) E u
   ·rw[aM ah]
    simp only[ah,aA,Aa];exact no 0 h4 _ M4 aa g u
section
def Aj8(g:Gm)(x:Me):Bool:=decide (x.state=1)&&meB g x
theorem A5p(M:Dd h m S F)(hb:HB h)(o:Rs x.An)(hm:Rs x.Bv):
 Ok (Kj K (.ptr m 0) (.agg x.cells) h) fun v h'=>v=.bool (Aj8 S.g x)/\Ext h h':=by
 simp only[Kj,Aa];obtain⟨B,t,f,j,_⟩:=nW h (.cells x.cells 53);rw[t];have b:=f.hb hb;obtain⟨_,D,p,bl,ql,np,q,c,G,a⟩:=M.s.ext hb f;have k:=b _ _ j;have lm:=b _ _ a.Hi.Hi;rw[G2 k,Ah j rfl (v:=I x.state) rfl];simp only[I,Ac];unfold Aj8;by_cases h0:x.state=1
 ·simp only[h0,aB,Aa,Ar,bD]
  rw[G2 k,Cz j rfl,Aj (n:=6) rfl]
  try simp only[Aa,Ar]
  rw[G2 lm,a.Hi.Bdk]
  try simp only[Aa,Ar]
  refine Ok.bE (Asu (K:=K) (Db b) h0 o hm) (fun _ _ p=>p.2) ?_;rintro _ u h2 ⟨rfl,_⟩ _ y;simp only[La,Aa];exact .ret ⟨rfl,f.trans y⟩
 ·simp only[h0,aA,Aa,Ar,ak,La]
  exact .ret ⟨rfl,f⟩
section
variable (A:By disp)(hK:10000<K)(hd:20<=d){b3 b4:Nat}(M:Dd h m S F)(hb:HB h)(x:Me)
include A hK hd M hb
theorem A4o {ih:EV->EV->EV->EV->EV->Ab->R}{f:EV}{z mt:Int}(hz:Rs z)(E:∀k:EV->R,Azy 2 2 true 2 f (.int .i64 (i:Int)) k=k (.agg [I z,I mt]))(f3:F b3)(f4:F b4)
 (g3:h.get b3=some (.cells x.cells 53)) (u:h.get b4=some (.cells (Bj D5) 85))
 (g:(S.Dz x z mt).2.2.1=true\/¬(S.Dz x z mt).2.2.2=0->∀h',Dd h' m (S.Dz x z mt).1 F->Kf (fun i=>F i/\¬i=b4) h h'->HB h'->((S.Dz x z mt).2.1.length=32/\∀b∈(S.Dz x z mt).2.1,b<256)->Q (.tuple [.agg (Bj (S.Dz x z mt).2.1),I (S.Dz x z mt).2.2.2]) h')
 (j:¬((S.Dz x z mt).2.2.1=true\/¬(S.Dz x z mt).2.2.2=0)->∀h',Dd h' m (S.Dz x z mt).1 F->Kf F h h'->HB h'->Ok (Mn (Ag TT disp K d false) (Ag TT disp K d true) K ih (.ptr m 0) (.ptr b3 0) (.ptr b4 0) f (.int .i64 (i:Int)) h') Q) :
 Ok (Rg (Ag TT disp K d false) (Ag TT disp K d true) K ih (.ptr m 0) (.ptr b3 0) (.ptr b4 0) f (.int .i64 (i:Int)) h) Q:=by
 simp only[Rg,E,Aa];refine Ok.st [I z,I mt] (Ad _ _) rfl rfl rfl ?_;obtain⟨h1,G,B,W,_⟩:=nP h (.cells [EV.int .i64 0,.int .i64 0] 71) (.cells [I z,I mt] 71);rw[G];have H:=B.hb hb;have M1:=M.ext hb B;have sub:∀i,F i->Bi F h h1 i:=fun i a=>.inl a
 rw[Cz (B.at hb g3) rfl,Aj (n:=6) rfl]
 try simp only[Aa]
 rw[show ∀k:EV->R,Ap9 2 1 (.ptr h.next 0) (.int .i64 0) k=k (.ptr h.next 0)from fun k=>rfl,Ah W rfl (v:=I z) rfl];rw[show ∀k:EV->R,Ap9 2 1 (.ptr h.next 0) (.int .i64 1) k=k (.ptr h.next 1)from fun k=>rfl,Ah W rfl (v:=I mt) rfl];refine(Bbc A hK hd M1 H x hz mt).Am ?_;rintro _ h2 ⟨rfl,bl,J,M2,k2,t⟩;have O:Kf F h h2:=B.Auj k2;generalize S.Dz x z mt=C at g j bl J M2⊢;obtain⟨T,l,ok,P⟩:=C;simp only at g j bl J M2⊢;have ul:(Bj l).length=32:=by rw[Bg,bl]
 simp only[Aa,Ga];refine Ok.st (Bj l) (Ad _ _) rfl (by show Fl (Bj l)=32;rw[Bf,ul]) (Bl (by show(Bj D5).length=(Bj l).length;rw[ul,Bg,Acn])) ?_;obtain⟨o,G,U,g8,_⟩:=nP h2 (.cells (Bj D5) 85) (.cells (Bj l) 85);rw[G];have p:=U.hb t;have X:=(M2.ext t U).less fun i (a:F i)=>Or.inl (sub i a)
 have q:Kf F h o:=O.trans U.kf;have u:=q.at hb u f4;have Y:=p _ _ u;have stop:(ok=true\/¬P=0)->Ok (Qp 32 (.ptr h2.next 0) o fun V=>stE 32 (.ptr b4 0) V o fun h=>Ij TT [.c (.ptr b4 0) 85,.v (I P)] h) Q:=fun hc=>by
  rw[Cz g8 rfl,Aj ul]
  try simp only[Aa]
  refine Ok.st (Bj l) u rfl (by show Fl (Bj l)=32;rw[Bf,ul]) (Bl (by show(Bj D5).length=(Bj l).length;rw[ul,Bg,Acn])) ?_;rw[Ea (Af _ _ _) Asi.1 Asi.2 ul];have Z:As (fun i=>i=b4) o (o.put b4 (.cells (Bj l) 85)):=(As.refl (S:=fun i=>i=b4) o).Ao (.inl rfl) Y _;exact .ret (g hc _ (X.Afg Z fun i a _=>a▸f4) ((q.less fun i a=>a.1).trans (Z.mono fun i a y=>y.2 a)) (p.put Y _) ⟨bl,J⟩)
 simp only[I,Ac]at stop⊢;cases ok with
 | true=>
  simp only[Aa,Ac,Rp];exact stop (.inl rfl)
 | false=>
  simp only[Aa,Ac,Rp];by_cases h0:P=0
  ·simp only[h0,aC,aA,Aa]
   exact j (by rw[h0];simp) o X q p
  ·simp only[h0,aE,aB,Aa]
   exact stop (.inr h0)
end
noncomputable def Mi.read(S:Mi)(x:Me):Mi × List Nat × Int:=
 if Aj8 S.g x=false then(S,D5,10)else
 if(S.Dz x x.An x.Bv).2.2.1=true\/¬(S.Dz x x.An x.Bv).2.2.2=0 then((S.Dz x x.An x.Bv).1,(S.Dz x x.An x.Bv).2.1,(S.Dz x x.An x.Bv).2.2.2)else
 if((S.Dz x x.An x.Bv).1.Dz x x.Bv x.An).2.2.1=true\/¬((S.Dz x x.An x.Bv).1.Dz x x.Bv x.An).2.2.2=0 then(((S.Dz x x.An x.Bv).1.Dz x x.Bv x.An).1,((S.Dz x x.An x.Bv).1.Dz x x.Bv x.An).2.1,((S.Dz x x.An x.Bv).1.Dz x x.Bv x.An).2.2.2)else
 (((S.Dz x x.An x.Bv).1.Dz x x.Bv x.An).1,D5,41)
theorem Bld(A:By disp)(hK:10000<K)(hd:21<=d)(M:Dd h m S F)(hb:HB h)(X:Rs x.An)(hm:Rs x.Bv):
 Ok (Ag TT disp K d false 193 [.ptr m 0,.agg x.cells] h) fun v h'=>v=.tuple [.agg (Bj (S.read x).2.1),I (S.read x).2.2]/\((S.read x).2.1.length=32/\∀b∈(S.read x).2.1,b<256)/\Dd h' m (S.read x).1 F/\Kf F h h'/\HB h':=by
 obtain⟨dd,rfl⟩:∃k,d=k+1:=⟨d-1,by omega⟩;rw[Ame A (by omega)];simp only[Afz,Aa];rw[show(h.new (.cells x.cells 53)).next=h.next+1 from rfl,Ga];have J:Ext h ((h.new (.cells x.cells 53)).new (.cells (Bj D5) 85)):=(As.new _ _).Da _;have j:((h.new (.cells x.cells 53)).new (.cells (Bj D5) 85)).get h.next=some (.cells x.cells 53):=by
  rw[Az _ (aR _)];exact Ad _ _
 have p:((h.new (.cells x.cells 53)).new (.cells (Bj D5) 85)).get (h.next+1)=some (.cells (Bj D5) 85):=Ad _ _;have n1:((h.new (.cells x.cells 53)).new (.cells (Bj D5) 85)).next=h.next+2:=rfl
 generalize (h.new (.cells x.cells 53)).new (.cells (Bj D5) 85)=h1 at J j p n1⊢;have q:=J.hb hb;have M1:=M.ext hb J;rw[Cz j rfl,Aj (n:=6) rfl]
 try simp only[Aa]
 refine(A5p (K:=K) M1 q X hm).Am ?_;rintro _ h2 ⟨rfl,E⟩;have f:=E.hb q;have G:Ext h h2:=J.trans E;have M2:=M.ext hb G;have j:=E.at q j;have p:=E.at q p;have ln:=E.next
 have f3:Bi F h h2 h.next:=.inr ⟨aD _,by omega⟩
 have f4:Bi F h h2 (h.next+1):=.inr ⟨by omega,by omega⟩;have sub:∀i,F i->Bi F h h2 i:=fun i t=>.inl t
 have back:∀h',Kf (fun i=>Bi F h h2 i/\¬i=h.next+1) h2 h'->Kf F h h':=fun h' k=>
  As.then (S:=fun i=>¬F i) (Ext.to G) k fun i y hl z=>y ⟨.inl z,fun y=>by have:=M.lt i z;omega⟩
 have fin:∀(o:Ab) (T:Mi) (O:Int),Dd o m T (Bi F h h2)->Kf (Bi F h h2) h2 o->HB o ->
  Ok (Bm (Ll 1) (Bj D5) [] fun v=>stE 32 (.ptr (h.next+1) 0) v o fun h'=>Ij TT [.c (.ptr (h.next+1) 0) 85,.v (I O)] h') fun v h'=>v=.tuple [.agg (Bj D5),I O]/\(D5.length=32/\∀b∈D5,b<256)/\Dd h' m T F/\Kf F h h'/\HB h':=by
  intro o T O H u a;have p:=u.at f p f4;have Y:=a _ _ p;rw[Aw (l:=Bj D5) rfl];refine Ok.st (Bj D5) p rfl rfl (Bl rfl) ?_;rw[Ea (Af _ _ _) Asi.1 Asi.2 rfl];have Z:As (fun i=>i=h.next+1) o (o.put (h.next+1) (.cells (Bj D5) 85)):=(As.refl (S:=fun i=>i=h.next+1) o).Ao (.inl rfl) Y _;exact .ret ⟨rfl,⟨rfl,fun b hb=>by rw[bc hb];decide⟩,(H.Afg Z fun i t _=>t▸f4).less sub,back _ ((u.less fun i t=>t.1).trans (Z.mono fun i t y=>y.2 t)),a.put Y _⟩
 unfold Mi.read;cases hl:Aj8 S.g x with
 | false=>
  simp only[Aa,bI];exact fin h2 S 10 M2 (As.refl _) f
 | true=>
  rw[aM (by simp)];simp only[Aa,Zx];rw[Ah j rfl (v:=I x.An) rfl]
  try simp only[Aa]
  rw[Ah j rfl (v:=I x.Bv) rfl,Aw (l:=[I x.An,I x.Bv]) rfl]
  try simp only[Aa]
  rw[Ah j rfl (v:=I x.Bv) rfl]
  try simp only[Aa]
  rw[Ah j rfl (v:=I x.An) rfl,Aw (l:=[I x.Bv,I x.An]) rfl,Aw (l:=[I x.An,I x.Bv,I x.Bv,I x.An]) rfl];obtain⟨k,rfl⟩:∃k,K=k+3:=⟨K-3,by omega⟩;rw[show Dl (Ag TT disp (k+3) dd false) (Ag TT disp (k+3) dd true) (k+3) (k+3)=Dl (Ag TT disp (k+3) dd false) (Ag TT disp (k+3) dd true) (k+3) (k+2+1)from rfl];rw[Dl];simp only[Ac,show decide ((0:Int)<2)=true from rfl,Aa];refine A4o A hK (by omega) M2 f x (i:=0) X (fun k=>rfl) f3 f4 j p ?_ ?_
  ·intro B o H u a bl
   rw[aQ B];exact⟨rfl,bl,H.less sub,back _ u,a⟩
  ·intro B o H u a
   rw[aM B];simp only[Mn,Ac];rw[show Cx .i64 (((0:Nat):Int)+1)=((1:Nat):Int)from rfl];rw[show Dl (Ag TT disp (k+3) dd false) (Ag TT disp (k+3) dd true) (k+3) (k+2)=Dl (Ag TT disp (k+3) dd false) (Ag TT disp (k+3) dd true) (k+3) (k+1+1)from rfl];rw[Dl];simp only[Ac,show decide (((1:Nat):Int)<2)=true from rfl,Aa];have P:=u.at f j f3;have U:=u.at f p f4;refine A4o A hK (by omega) H a x (i:=1) hm (fun k=>rfl) f3 f4 P U ?_ ?_
   ·intro B h4 V W C bl
    rw[aQ B];exact⟨rfl,bl,V.less sub,back _ ((u.less fun i t=>t.1).trans W),C⟩
   ·intro B h4 V W C
    rw[aM B];simp only[Mn,Ac];rw[show Cx .i64 (((1:Nat):Int)+1)=((2:Nat):Int)from rfl];rw[Dl];simp only[Ac,show decide (((2:Nat):Int)<2)=false from rfl,Aa,Zu,Ga];exact fin h4 _ 41 V (u.trans W) C
section
variable (A:By disp)(hK:10000<K)(hd:20<=d){b3 b4 b7:Nat}(M:Dd h m S F)(hb:HB h)(x:Me)
include A hK hd M hb
theorem A2i{v30:EV}{z mt:Int}{l0:List Nat}{n gd:Nat}(hn:n<=10)(ax:gd<=10)(u:l0.length=32)(hz:Rs z)(Y:∀k:EV->R,Azy 2 2 true 2 v30 (.int .i64 (i:Int)) k=k (.agg [I z,I mt]))(f3:F b3)(f4:F b4)(f7:F b7)(ay:b4≠b7)
 (g3:h.get b3=some (.cells x.cells 53)) (P:h.get b4=some (.cells (Bj D5) 85)) (B:h.get b7=some (.cells (Bj l0) 85))
 (q:¬(S.Dz x z mt).2.2.2=0->∀h',Dd h' m (S.Dz x z mt).1 F->Kf (fun i=>F i/\¬i=b4/\¬i=b7) h h'->HB h'->Q (.tuple [.agg (Bj D5),I 0,I (S.Dz x z mt).2.2.2]) h')
 (f:(S.Dz x z mt).2.2.2=0->∀h',Dd h' m (S.Dz x z mt).1 F->Kf (fun i=>F i/\¬i=b7) h h'->HB h'->(if(S.Dz x z mt).2.2.1=true then(S.Dz x z mt).2.1 else l0).length=32 ->
  h'.get b7=some (.cells (Bj (if(S.Dz x z mt).2.2.1=true then(S.Dz x z mt).2.1 else l0)) 85) ->
  Ok (Hq (Ag TT disp K d false) (Ag TT disp K d true) K ih (.ptr m 0) (.ptr b3 0) (.ptr b4 0) (.ptr b7 0) (I ((if(S.Dz x z mt).2.2.1=true/\(S.Dz x z mt).1.Jt z=false then n+1 else n:Nat):Int)) (I ((if(S.Dz x z mt).2.2.1=true then gd+1 else gd:Nat):Int)) v30 (.int .i64 (i:Int)) h') Q) :
 Ok (Qg (Ag TT disp K d false) (Ag TT disp K d true) K ih (.ptr m 0) (.ptr b3 0) (.ptr b4 0) (.ptr b7 0) (I (n:Int)) (I (gd:Int)) v30 (.int .i64 (i:Int)) h) Q:=by
 simp only[Qg,Y,Aa];refine Ok.st [I z,I mt] (Ad _ _) rfl rfl rfl ?_;obtain⟨U,Z,V,a,n1⟩:=nP h (.cells [EV.int .i64 0,.int .i64 0] 71) (.cells [I z,I mt] 71);rw[Z];have E:=V.hb hb;have M1:=M.ext hb V;have aa:Bi F h U h.next:=.inr ⟨aD _,by omega⟩
 have sub:∀i,F i->Bi F h U i:=fun i b=>.inl b
 rw[Cz (V.at hb g3) rfl,Aj (n:=6) rfl]
 try simp only[Aa]
 rw[show ∀k:EV->R,Ap9 2 1 (.ptr h.next 0) (.int .i64 0) k=k (.ptr h.next 0)from fun k=>rfl,Ah a rfl (v:=I z) rfl];rw[show ∀k:EV->R,Ap9 2 1 (.ptr h.next 0) (.int .i64 1) k=k (.ptr h.next 1)from fun k=>rfl,Ah a rfl (v:=I mt) rfl];refine(Bbc A hK hd M1 E x hz mt).Am ?_;rintro _ h2 ⟨rfl,bl,bu,M2,k2,t⟩;have ab:Kf F h h2:=V.Auj k2;have a:=k2.at E a aa;generalize S.Dz x z mt=C at q f bl bu M2⊢;obtain⟨T,l,ok,er⟩:=C;simp only at q f bl bu M2⊢;have ul:(Bj l).length=32:=by rw[Bg,bl]
 have ad:(Bj l0).length=32:=by rw[Bg,u]
 simp only[Aa,Ga];refine Ok.st (Bj l) (Ad _ _) rfl (by show Fl (Bj l)=32;rw[Bf,ul]) (Bl (by show(Bj D5).length=(Bj l).length;rw[ul,Bg,Acn])) ?_;obtain⟨g,Z,W,ae,_⟩:=nP h2 (.cells (Bj D5) 85) (.cells (Bj l) 85);rw[Z];have j:=W.hb t;have a:=W.at t a;have G:=(M2.ext t W).less fun i (b:Bi F h U i)=>Or.inl b
 have M3:=G.less sub;have o:Kf F h g:=ab.trans W.kf;have P:=o.at hb P f4;have B:=o.at hb B f7;have l4:=j _ _ P;have l7:=j _ _ B;simp only[I,Ac];by_cases h0:er=0
 ·simp only[h0,aC,aA,Aa,Xq]
  have f:=f h0;cases ok with
  | false=>
   simp only[Aa];have:=f g M3 (o.less fun i b=>b.1) j (by simp[u]) (by simpa using B);simpa [I]using this
  | true=>
   simp only[Aa,Xz];rw[Cz ae rfl,Aj ul]
   try simp only[Aa]
   refine Ok.st (Bj l) B rfl (by show Fl (Bj l)=32;rw[Bf,ul]) (Bl (by show(Bj l0).length=(Bj l).length;rw[ul,ad])) ?_;have c7:As (fun i=>i=b7) g (g.put b7 (.cells (Bj l) 85)):=(As.refl (S:=fun i=>i=b7) g).Ao (.inl rfl) l7 _;have M4:=G.Afg c7 fun i b _=>by
    have b:i=b7:=b;subst b;exact sub _ f7
   have H:(g.put b7 (.cells (Bj l) 85)).get b7=some (.cells (Bj l) 85):=Af _ _ _;have a:(g.put b7 (.cells (Bj l) 85)).get h.next=some (.cells [I z,I mt] 71):=by
    rw[Ae _ (fun y=>by have:=M.lt _ f7;omega)];exact a
   have J:Kf (fun i=>F i/\¬i=b7) h (g.put b7 (.cells (Bj l) 85)):=(o.less fun i b=>b.1).trans (c7.mono fun i b y=>y.2 b);have p:HB (g.put b7 (.cells (Bj l) 85)):=j.put l7 _;generalize g.put b7 (.cells (Bj l) 85)=h4 at M4 H a J p⊢;simp only[I,Ac];rw[Ci (n:=(gd:Int)+1) (by omega) (by omega),Ci (n:=(n:Int)+1) (by omega) (by omega)];rw[show ∀k:EV->R,Ap9 2 1 (.ptr h.next 0) (.int .i64 0) k=k (.ptr h.next 0)from fun k=>rfl,Ah a rfl (v:=I z) rfl];refine(Je (K:=K) M4.s p hz).Am ?_;rintro _ h5 ⟨rfl,X⟩;have ag:=X.hb p;have M5:=(M4.ext p X).less fun i (b:Bi F h U i)=>Or.inl b
   have this:=f h5 (M5.less sub) (J.trans X.kf) ag (by simpa using bl) (by simpa using X.at p H);cases O:T.Jt z with
   | true=>
    simp only[Aa];simpa [I,O]using this
   | false=>
    simp only[Aa,Ac];simpa [I,O]using this
 ·simp only[h0,aE,aB,Aa]
  rw[Aw (l:=Bj D5) rfl];refine Ok.st (Bj D5) P rfl rfl (Bl rfl) ?_;rw[Ahu (Af _ _ _) Asi.1 Asi.2 rfl];have c8:As (fun i=>i=b4) g (g.put b4 (.cells (Bj D5) 85)):=(As.refl (S:=fun i=>i=b4) g).Ao (.inl rfl) l4 _;exact .ret (q h0 _ (M3.Afg c8 fun i b _=>b▸f4) ((o.less fun i b=>b.1).trans (c8.mono fun i b y=>y.2.1 b)) (j.put l4 _))
end
noncomputable def Mi.A7q(x:Me)(C D:Mi × List Nat × Bool × Int):Mi × List Nat × Int × Int:=
 if ¬D.2.2.2=0 then(D.1,D5,0,D.2.2.2)else
 if C.2.2.1=false/\D.2.2.1=false then(D.1,D5,0,41)else
 (D.1,if D.2.2.1=true then D.2.1 else C.2.1,(if C.2.2.1=true/\C.1.Jt x.An=false then 1 else 0)+(if D.2.2.1=true/\D.1.Jt x.Bv=false then 1 else 0),0)
noncomputable def Mi.check(S:Mi)(x:Me):Mi × List Nat × Int × Int:=
 if Aj8 S.g x=false then(S,D5,0,10)else
 if ¬(S.Dz x x.An x.Bv).2.2.2=0 then((S.Dz x x.An x.Bv).1,D5,0,(S.Dz x x.An x.Bv).2.2.2)else
 Mi.A7q x (S.Dz x x.An x.Bv) ((S.Dz x x.An x.Bv).1.Dz x x.Bv x.An)
theorem A5g(A:By disp)(hK:10000<K)(hd:21<=d)(M:Dd h m S F)(hb:HB h)(hz:Rs x.An)(hm:Rs x.Bv):
 Ok (Ag TT disp K d false 106 [.ptr m 0,.agg x.cells] h) fun v h'=>v=.tuple [.agg (Bj (S.check x).2.1),I (S.check x).2.2.1,I (S.check x).2.2.2]/\(S.check x).2.1.length=32/\Dd h' m (S.check x).1 F/\Kf F h h'/\HB h':=by
 obtain⟨dd,rfl⟩:∃k,d=k+1:=⟨d-1,by omega⟩;rw[Ak0 A (by omega)];simp only[Aes,Aa];rw[show(h.new (.cells x.cells 53)).next=h.next+1 from rfl,Ga];have x1:Ext h ((h.new (.cells x.cells 53)).new (.cells (Bj D5) 85)):=(As.new _ _).Da _;have j:((h.new (.cells x.cells 53)).new (.cells (Bj D5) 85)).get h.next=some (.cells x.cells 53):=by
  rw[Az _ (aR _)];exact Ad _ _
 have t:((h.new (.cells x.cells 53)).new (.cells (Bj D5) 85)).get (h.next+1)=some (.cells (Bj D5) 85):=Ad _ _;have n1:((h.new (.cells x.cells 53)).new (.cells (Bj D5) 85)).next=h.next+2:=rfl
 generalize (h.new (.cells x.cells 53)).new (.cells (Bj D5) 85)=h1 at x1 j t n1⊢;have u:=x1.hb hb;have M1:=M.ext hb x1;rw[Cz j rfl,Aj (n:=6) rfl]
 try simp only[Aa]
 refine(A5p (K:=K) M1 u hz hm).Am ?_;rintro _ h2 ⟨rfl,W⟩;have o:=W.hb u;have J:Ext h h2:=x1.trans W;have M2:=M.ext hb J;have j:=W.at u j;have t:=W.at u t;have ln:=W.next
 have a2:Bi F h h2 (h.next+1):=.inr ⟨by omega,by omega⟩;have l4:=o _ _ t;unfold Mi.check;cases hl:Aj8 S.g x with
 | false=>
  simp only[Aa,bI];rw[Aw (l:=Bj D5) rfl];refine Ok.st (Bj D5) t rfl rfl (Bl rfl) ?_;rw[Ahu (Af _ _ _) Asi.1 Asi.2 rfl];have O:Ext h (h2.put (h.next+1) (.cells (Bj D5) 85)):=J.Ao (.inr (by omega)) l4 _;exact .ret ⟨rfl,rfl,(M.ext hb O).less fun i (f:F i)=>Or.inl f,O.kf,o.put l4 _⟩
 | true=>
  rw[aM (by simp)];simp only[Aa,Zf,Ga];obtain⟨B,e_,O,g7,n3⟩:=nW h2 (.cells (Bj D5) 85);rw[e_];have P:=O.hb o;have X:Ext h B:=J.trans O;have M3:=M.ext hb X;have j:=O.at o j;have t:=O.at o t;have f3:Bi F h B h.next:=.inr ⟨aD _,by omega⟩
  have f4:Bi F h B (h.next+1):=.inr ⟨by omega,by omega⟩;have f7:Bi F h B h2.next:=.inr ⟨by omega,by omega⟩
  have E:h.next+1≠h2.next:=by omega
  have sub:∀i,F i->Bi F h B i:=fun i f=>.inl f
  have back:∀h',Kf (fun i=>Bi F h B i/\¬i=h.next+1/\¬i=h2.next) B h'->Kf F h h':=fun h' k=>
   As.then (S:=fun i=>¬F i) (Ext.to X) k fun i y hl z=>y ⟨.inl z,fun y=>by have:=M.lt i z;omega,fun y=>by have:=M.lt i z;omega⟩
  rw[Ah j rfl (v:=I x.An) rfl]
  try simp only[Aa]
  rw[Ah j rfl (v:=I x.Bv) rfl,Aw (l:=[I x.An,I x.Bv]) rfl]
  try simp only[Aa]
  rw[Ah j rfl (v:=I x.Bv) rfl]
  try simp only[Aa]
  rw[Ah j rfl (v:=I x.An) rfl,Aw (l:=[I x.Bv,I x.An]) rfl,Aw (l:=[I x.An,I x.Bv,I x.Bv,I x.An]) rfl];obtain⟨k,rfl⟩:∃k,K=k+3:=⟨K-3,by omega⟩;rw[show De (Ag TT disp (k+3) dd false) (Ag TT disp (k+3) dd true) (k+3) (k+3)=De (Ag TT disp (k+3) dd false) (Ag TT disp (k+3) dd true) (k+3) (k+2+1)from rfl];rw[De];simp only[Ac,show decide ((0:Int)<2)=true from rfl,Aa];refine A2i A hK (by omega) M3 P x (i:=0) (n:=0) (gd:=0) (l0:=D5) (by omega) (by omega) rfl hz (fun k=>rfl) f3 f4 f7 E j t g7 ?_ ?_
  ·intro T h4 M4 U G
   rw[aQ T];exact⟨rfl,rfl,M4.less sub,back _ U,G⟩
  ·intro T h4 M4 U G p Y
   rw[aM (show ¬¬(S.Dz x x.An x.Bv).2.2.2=0 from fun y=>y T)];have ai:=U.at P j ⟨f3,by omega⟩;have Z:=U.at P t ⟨f4,E⟩;generalize S.Dz x x.An x.Bv=C at M4 p Y⊢;simp only[Hq,Ac];rw[show Cx .i64 (((0:Nat):Int)+1)=((1:Nat):Int)from rfl];rw[show De (Ag TT disp (k+3) dd false) (Ag TT disp (k+3) dd true) (k+3) (k+2)=De (Ag TT disp (k+3) dd false) (Ag TT disp (k+3) dd true) (k+3) (k+1+1)from rfl];rw[De];simp only[Ac,show decide (((1:Nat):Int)<2)=true from rfl,Aa];have aj:(if C.2.2.1=true/\C.1.Jt x.An=false then 0+1 else 0)<=10:=by split<;>omega
   have al:(if C.2.2.1=true then 0+1 else 0)<=10:=by split<;>omega
   refine A2i A hK (by omega) M4 G x (i:=1) aj al p hm (fun k=>rfl) f3 f4 f7 E ai Z Y ?_ ?_
   ·intro T V M5 k5 H
    unfold Mi.A7q;rw[aQ T];exact⟨rfl,rfl,M5.less sub,back _ ((U.less fun i f=>⟨f.1,f.2.2⟩).trans k5),H⟩
   ·intro T V M5 k5 H a b
    unfold Mi.A7q;rw[aM (show ¬¬(C.1.Dz x x.Bv x.An).2.2.2=0 from fun y=>y T)];have aa:=k5.at G Z ⟨f4,E⟩;have ab:=H _ _ aa;generalize C.1.Dz x x.Bv x.An=D at M5 a b⊢;simp only[Hq,Ac];rw[show Cx .i64 (((1:Nat):Int)+1)=((2:Nat):Int)from rfl];rw[De];simp only[Ac,show decide (((2:Nat):Int)<2)=false from rfl,Aa,Xx,I];have ao:Kf (fun i=>Bi F h B i/\¬i=h.next+1/\¬i=h2.next) B V:=(U.less fun i f=>⟨f.1,f.2.2⟩).trans (k5.less fun i f=>⟨f.1,f.2.2⟩);have fin:∀(l:List Nat) (n er:Int),l.length=32->Ok (stE 32 (.ptr (h.next+1) 0) (.agg (Bj l)) V fun h'=>Ij TT [.c (.ptr (h.next+1) 0) 85,.v (I n),.v (I er)] h') fun v h'=>v=.tuple [.agg (Bj l),I n,I er]/\l.length=32/\Dd h' m D.1 F/\Kf F h h'/\HB h':=by
     intro l n er hl;have ul:(Bj l).length=32:=by rw[Bg,hl]
     refine Ok.st (Bj l) aa rfl (by show Fl (Bj l)=32;rw[Bf,ul]) (Bl (by show(Bj D5).length=(Bj l).length;rw[ul,Bg,Acn])) ?_;rw[Ahu (Af _ _ _) Asi.1 Asi.2 ul];have c8:As (fun i=>i=h.next+1) V (V.put (h.next+1) (.cells (Bj l) 85)):=(As.refl (S:=fun i=>i=h.next+1) V).Ao (.inl rfl) ab _;exact .ret ⟨rfl,hl,(M5.Afg c8 fun i f _=>f▸f4).less sub,back _ (ao.trans (c8.mono fun i f y=>y.2.1 f)),H.put ab _⟩
    cases c1:C.2.2.1 with
    | false=>
     rw[c1]at a b;cases c2:D.2.2.1 with
     | false=>
      simp only[aW,gE,aY,and_self,bI,show((0:Nat):Int)=0 from rfl,aB,Aa,Ga];rw[Aw (l:=Bj D5) rfl];exact fin D5 0 41 rfl
     | true=>
      rw[c2]at a b;simp only[bI]at a b;simp only[aW,gE,aY,fX,and_false,gF,bI,Aa,Le,show decide (((0+1:Nat):Int)=0)=false from rfl];rw[Cz b rfl,Aj (by rw[Bg,a])];simp only[Aa];have:=fin D.2.1 ((if D.1.Jt x.Bv=false then 0+1 else 0:Nat):Int) 0 a;simp only[I]at this;cases q:D.1.Jt x.Bv<;>simpa [q]using this
    | true=>
     rw[c1]at p a b;simp only[bI]at p;cases c2:D.2.2.1 with
     | false=>
      rw[c2]at a b;simp only[bI,aW,aY]at a b;simp only[fX,gE,aY,gF,bI,aW,Aa,Le,show decide (((0+1:Nat):Int)=0)=false from rfl];rw[Cz b rfl,Aj (by rw[Bg,a])];simp only[Aa];have:=fin C.2.1 ((if C.1.Jt x.An=false then 0+1 else 0:Nat):Int) 0 p;simp only[I]at this;cases q:C.1.Jt x.An<;>simpa [q]using this
     | true=>
      rw[c2]at a b;simp only[bI]at a b;simp only[fX,gE,aY,gF,bI,Aa,Le,show decide (((0+1+1:Nat):Int)=0)=false from rfl];rw[Cz b rfl,Aj (by rw[Bg,a])];simp only[Aa];have:=fin D.2.1 (((if C.1.Jt x.An=false then 1 else 0)+(if D.1.Jt x.Bv=false then 1 else 0):Nat):Int) 0 a;simp only[I]at this;cases au:C.1.Jt x.An<;>cases q:D.1.Jt x.Bv<;>simpa [au,q]using this
end
noncomputable def K4.new(n size:Nat)(op:Int):K4:=⟨⟨n,size,op,0,false,fun _=>Zn.empty⟩,[],[]⟩
noncomputable def Mi.new(g:Gm):Mi:=⟨g,K4.new (g.D*g.Z).toNat g.S.toNat g.O,fun _=>[],fun _=>0,-1,-1,0⟩
theorem Bpa {g:Gm}(s:Sm g){h0:Ab}(hb:HB h){V M zl p bl ql:Nat}{z q c:Nat->Nat}(d:Ah1 h D V M zl (g.D*g.Z).toNat z (fun _=>0) g.S g.O 0 false .Al .Al [] (fun _=>Zn.empty))
 (nd:(h0.next<=D/\h0.next<=M)/\h0.next<=V/\h0.next<=zl/\∀d,d<(g.D*g.Z).toNat->h0.next<=z d) (E:Abj h m D p bl (g.D*g.Z).toNat g (-1) (-1) 0 (fun _=>0)) (v:E3 h p ql g.D.toNat q c g (fun _=>[]))
 (T:(h0.next<=m/\h0.next<=bl)/\h0.next<=p/\h0.next<=ql/\∀d,d<g.D.toNat->h0.next<=q d/\h0.next<=c d) (le:h0.next<=h.next):Dd h m (Mi.new g) (fun i=>i<h0.next):=by
 have:=s.d0;have:=s.d1;have:=s.z0;have:=s.z1;have:=s.s0;have:=s.s1;obtain⟨m0,m1⟩:=Oi (a:=g.D) (b:=g.Z) (A:=8) (B:=64) (by omega) (by omega) (by omega) (by omega);have j:=d.dev;have u:∀i,i<(g.D*g.Z).toNat->∃s,h.get (z i)=some (.cells [s,I g.S,I 0,I 0,.bool false] 277):=fun i f=>by
  obtain⟨s,a,_⟩:=(j.An i f).An;exact⟨s,a⟩
 have U:∀i,A3r V zl (g.D*g.Z).toNat z (fun _=>0) (fun _=>Zn.empty) i->i=V\/i=zl\/∃d,d<(g.D*g.Z).toNat/\i=z d:=fun i f=>by
  rcases f with y|y|⟨d,hd,y|y⟩
  ·exact .inl y
  ·exact .inr (.inl y)
  ·exact .inr (.inr ⟨d,hd,y⟩)
  ·exact absurd rfl y.1
 have kind:∀i o,h.get i=some o->(∀l,o≠.cells l 152)->(∀l,o≠.vec l 220 1)->(∀l,o≠.cells l 277)->¬A3r V zl (g.D*g.Z).toNat z (fun _=>0) (fun _=>Zn.empty) i:=fun i o t H h2 J f=>by
  rcases U i f with y|y|⟨d,hd,y⟩
  ·subst y;rw[j.dev]at t;cases t;exact H _ rfl
  ·subst y;rw[j.row]at t;cases t;exact h2 _ rfl
  ·subst y
   obtain⟨s,hs⟩:=u d hd;rw[hs]at t;cases t;exact J _ rfl
 have C:∀i o,h.get i=some o->(∀l,o≠.cells l 152)->(∀l,o≠.vec l 220 1)->(∀l,o≠.cells l 277)->(∀l,o≠.cells l 149)->(∀l,o≠.map l)->¬(i=D\/i=M\/A3r V zl (g.D*g.Z).toNat z (fun _=>0) (fun _=>Zn.empty) i):=fun i o t H h2 J h4 W f=>by
  rcases f with y|y|y
  ·subst y;rw[d.Dc]at t;cases t;exact h4 _ rfl
  ·subst y;rw[d.marks]at t;cases t;exact W _ rfl
  ·exact kind i o t H h2 J y
 have n:∀i,A3r V zl (g.D*g.Z).toNat z (fun _=>0) (fun _=>Zn.empty) i->i<h.next/\h0.next<=i:=fun i f=>by
  rcases U i f with y|y|⟨d,hd,y⟩
  ·subst y;exact⟨hb _ _ j.dev,nd.2.1⟩
  ·subst y;exact⟨hb _ _ j.row,nd.2.2.1⟩
  ·subst y
   obtain⟨s,hs⟩:=u d hd;exact⟨hb _ _ hs,nd.2.2.2 d hd⟩
 have hS:g.S=((g.S.toNat:Nat):Int):=by omega
 have G:Ff h D (K4.new (g.D*g.Z).toNat g.S.toNat g.O) (fun i=>i=D\/i=M\/A3r V zl (g.D*g.Z).toNat z (fun _=>0) (fun _=>Zn.empty) i):=by
  have X:∀size:Nat,0<size->Zn.empty.Wf size:=fun size hs=>⟨fun x P=>(by cases P),by show 0<=4;omega,aD _,cU _,fun _=>hs⟩
  have Y:Dv.Wf ⟨(g.D*g.Z).toNat,g.S.toNat,g.O,0,false,fun _=>Zn.empty⟩:=⟨by show g.S.toNat<=64;omega,by show(g.D*g.Z).toNat<=512;omega,fun i _=>X _ (by show 0<g.S.toNat;omega)⟩;refine⟨fun i f=>?_,⟨by show 0+0<=200;omega,fun e he=>(by cases he),fun e he=>(by cases he)⟩,V,M,0,0,.Al,.Al,[],_,d.Dc,d.marks,fun e he=>(by cases he),.nil _ _ _ _,.nil _ _ _ _,⟨Y,fun i f=>(n i f).1,zl,z,fun _=>0,?_,fun i f=>f⟩,⟨fun i f=>.inr (.inr f),.inl rfl,.inr (.inl rfl),fun y=>absurd y (bS _),fun y=>absurd y (bS _)⟩,⟨kind _ _ d.Dc (by intros;simp) (by intros;simp) (by intros;simp),kind _ _ d.marks (by intros;simp) (by intros;simp) (by intros;simp),fun y=>absurd y (bS _),fun y=>absurd y (bS _),fun y=>absurd y (bS _)⟩⟩
  ·rcases f with y|y|y
   ·subst y;exact hb _ _ d.Dc
   ·subst y;exact hb _ _ d.marks
   ·exact(n i y).1
  ·show Lt h V zl (g.D*g.Z).toNat z (fun _=>0) ((g.S.toNat:Nat):Int) g.O 0 false (fun _=>Zn.empty)
   rw[<-hS];exact j
 refine⟨⟨fun i f=>f.1,D,p,bl,ql,g.D.toNat,q,c,_,E,v,⟨rfl,s,fun d _=>cU _⟩,G,?_,?_⟩,fun i f=>aN f le,{ toWp:=⟨s,fun d _ x P=>by cases P⟩,op:=.inl ⟨rfl,rfl⟩ }⟩
 ·have k:=C
  exact⟨k _ _ E.Hi (by intros;simp) (by intros;simp) (by intros;simp) (by intros;simp) (by intros;simp),k _ _ E.Az4 (by intros;simp) (by intros;simp) (by intros;simp) (by intros;simp) (by intros;simp),k _ _ v.Gh (by intros;simp) (by intros;simp) (by intros;simp) (by intros;simp) (by intros;simp),k _ _ v.row (by intros;simp) (by intros;simp) (by intros;simp) (by intros;simp) (by intros;simp),
   fun d hd=>⟨k _ _ (v.que d hd) (by intros;simp) (by intros;simp) (by intros;simp) (by intros;simp) (by intros;simp),k _ _ (v.chan d hd) (by intros;simp) (by intros;simp) (by intros;simp) (by intros;simp) (by intros;simp)⟩⟩
 ·refine⟨fun i f=>?_,⟨hb _ _ E.Hi,by omega⟩,⟨hb _ _ E.Az4,by omega⟩,⟨hb _ _ v.Gh,by omega⟩,⟨hb _ _ v.row,by omega⟩,fun d hd=>⟨⟨hb _ _ (v.que d hd),by have:=T.2.2.2 d hd;omega⟩,⟨hb _ _ (v.chan d hd),by have:=T.2.2.2 d hd;omega⟩⟩⟩
  rcases f with y|y|y
  ·subst y;exact⟨hb _ _ d.Dc,by omega⟩
  ·subst y;exact⟨hb _ _ d.marks,by omega⟩
  ·exact⟨(n i y).1,by have:=(n i y).2;omega⟩
section
noncomputable def Mi.Bem(S:Mi)(z:Int):Mi:={ S with ps:=(As2 S.g S.g.D.toNat S.ps z).2 }
theorem Mi.Wf.Bem(w:S.Wf){z:Int}(a:0<=Ex S.g z->¬S.bad z.toNat=1):(S.Bem z).Wf:={ toWp:=⟨w.sm,A4z w.ps _ _ a⟩,op:=w.op }
section
variable(M:Dd h m S F)(hb:HB h)
include M
theorem M0(hb:HB h):Ok (Cf K (.ptr m 0) h) fun v h'=>v=gV S.g/\Ext h h':=by
 obtain⟨_,D,p,bl,ql,np,q,c,G,a⟩:=M.s;exact A2e a.Hi hb
theorem A9s:Mb K (.ptr m 0) h=some (.tuple [I S.a,I S.b,I S.u],h):=by
 obtain⟨_,D,p,bl,ql,np,q,c,G,a⟩:=M.s;exact A2d a.Hi
include hb
theorem Ba5(A:By disp)(hK:10000<K):∃p,Cn K (.ptr m 0) h=some (.ptr p 0,h)/\∀{d:Nat},8<=d->∀{z:Int},Rs z->(0<=Ex S.g z->¬S.bad z.toNat=1) ->
 Ok (Ag TT disp K d false 67 [.ptr p 0,I z] h) fun v h'=>v=I (As2 S.g S.g.D.toNat S.ps z).1/\Dd h' m (S.Bem z) F/\Kf F h h'/\HB h':=by
 obtain⟨lt,D,p,bl,ql,np,q,c,G,a⟩:=M.s;refine⟨p,Yg a.Hi,fun {d} hd {z} j k=>?_⟩;have b:=a.psz.nd;subst b;refine(Bgn (K:=K) A a.Gh hb a.psz (by omega) hd z j).mono ?_;rintro v h' ⟨c3,f,rfl,n,o⟩;obtain⟨a3,cH⟩:=a.Arr hb n o c3;obtain⟨t,u⟩:=M.made (Sq.mono (H:=Out F h) ⟨fun i y=>aN y.1 cH.next,D,p,bl,ql,_,q,c,G,a3⟩ (fun _=>.inl) (Bi.lt lt cH.next)) cH (M.wf.Bem k);exact⟨rfl,t,u,f⟩
end
end
theorem Lo.Ba(w:e.Wf):e.cells.length=68:=by
 unfold Lo.cells;rw[aG,w.len];rfl
theorem Bak(e:Lo):Ok (Ty K (.agg e.cells) h) fun v h'=>(∃b:Bool,v=.bool b)/\Ext h h':=by
 simp only[Ty,Aa];obtain⟨a,j,f,g,_⟩:=nW h (.cells e.cells 32);rw[j];rw[Ah g rfl (v:=I e.Mw) rfl];simp only[I,Ac];by_cases a:e.Mw≥0
 ·simp only[a,aB,Aa]
  rw[Ah g rfl (v:=I e.kind) rfl];simp only[I,Ac,U2];by_cases h2:e.kind≥1
  ·simp only[h2,aB,Aa,Ac]
   rw[Ah g rfl (v:=I e.kind) rfl];simp only[I,Ac,Ou,Aa];exact .ret ⟨⟨_,rfl⟩,f⟩
  ·simp only[h2,aA,Aa,Ac,Ou]
   exact .ret ⟨⟨_,rfl⟩,f⟩
 ·simp only[a,aA,Aa,Ac,U2,Ou]
  exact .ret ⟨⟨_,rfl⟩,f⟩
theorem A6g(hw:∀e∈L,e.Wf):∀x∈L.map Lo.cells,x.length=68:=fun x a=>by
 obtain⟨e,he,rfl⟩:=cY.1 a;exact Lo.Ba (hw e he)
theorem Bt3(hw:∀e∈L,e.Wf){j:Nat}(hj:j<L.length):(L.map Lo.cells).flatten[j*68]? = some (I L[j].Mw):=by
 obtain⟨e,a,h2⟩:=Avu (n:=68) (A6g hw) (j:=j) (by rw[bZ];exact hj);rw[e,b9,bY (by omega),a,fS,List.getElem_map,bh (by rw[Lo.Ba (hw _ (av hj))];omega)];rfl
theorem Brk(hw:∀e∈L,e.Wf)(a:i<=L.length):(L.map Lo.cells).flatten.take (i*68)=((L.take i).map Lo.cells).flatten/\(L.map Lo.cells).flatten.drop (i*68)=((L.drop i).map Lo.cells).flatten:=by
 have e:(L.map Lo.cells).flatten=((L.take i).map Lo.cells).flatten++((L.drop i).map Lo.cells).flatten:=by
  rw[<-cj,<-bm,List.take_append_drop]
 have b:((L.take i).map Lo.cells).flatten.length=i*68:=by
  rw[Afm (n:=68) _ (A6g fun e he=>hw e (bO he)),bZ,bH,dW a]
 rw[e,<-b,dM,dG];exact⟨rfl,rfl⟩
theorem Bra{s:EV}{q j:Nat}(row:Cc h s q 32 68 L.length (L.map Lo.cells).flatten)(hw:∀e∈L,e.Wf)(w:e.Wf)(hj:h.get j=some (.cells e.cells 32))(g:i<=L.length)(o:L.length<=1000):
 ∃h',Bj6 s (i:Int) j h=some (.slice h.next 0 (L.length+1) (L.length+1) true,h')/\Cc h' (.slice h.next 0 (L.length+1) (L.length+1) true) h.next 32 68 (L.length+1) ((L.take i++[e]++L.drop i).map Lo.cells).flatten/\h'.next=h.next+1/\As (fun k=>0<L.length/\k=q) h h':=by
 have el:=Lo.Ba w;have fl:((L.take i++[e]++L.drop i).map Lo.cells).flatten=((L.take i).map Lo.cells).flatten++e.cells++((L.drop i).map Lo.cells).flatten:=by
  simp only[bm,cj,cR,List.map_nil,br,List.flatten_nil,cS]
 have hlen:((L.take i++[e]++L.drop i).map Lo.cells).flatten.length=(L.length+1)*68:=by
  rw[Afm (n:=68) _ (A6g fun x a=>?_)]
  ·rw[bZ];simp only[aG,bH,aU,List.length_singleton];omega
  ·rcases bP.1 a with a|a
   ·rcases bP.1 a with a|a
    ·exact hw x (bO a)
    ·rw[aP.1 a];exact w
   ·exact hw x (aF a)
 have nil:L.length=0->((L.take i++[e]++L.drop i).map Lo.cells).flatten=e.cells/\i=0:=fun h0=>by
  have:=bX.1 h0;subst this;obtain rfl:i=0:=by simpa using g
  exact⟨by simp,rfl⟩
 rcases row with⟨h0,_,hs⟩|⟨p,rfl,t,f⟩
 ·obtain⟨u,rfl⟩:=nil h0
  have res:Bj6 s ((0:Nat):Int) j h=some (.slice h.next 0 1 1 true,h.new (.vec e.cells 32 68)):=by
   unfold Bj6;rw[hj];rcases hs with rfl|⟨b,rfl⟩
   ·simp[el]
   ·simp[el]
  refine⟨_,by rw[h0];exact res,.inr ⟨by omega,rfl,?_,hlen⟩,rfl,As.new _ _⟩;rw[u];exact Ad _ _
 ·obtain⟨t1,t2⟩:=Brk hw g
  refine⟨(h.del q).new (.vec (((L.take i++[e]++L.drop i).map Lo.cells).flatten) 32 68),?_,.inr ⟨by omega,rfl,?_,hlen⟩,rfl,(As.del h (.inl ⟨p,rfl⟩)).trans (As.new _ _)⟩
  ·unfold Bj6
   rw[hj];simp only[el,gF,t];rw[aQ (by omega),aQ ⟨f,by omega,o⟩,bG,t1,t2,fl]
  ·rw[show h.next=(h.del q).next from rfl,Ad]
theorem Bhb {c r:Ai}{V M qc v3:Nat}{cs hs:EV}(hd:h.get D=some (.cells [.ptr V 0,cs,hs,.map M] 149))(row:Cc h cs qc 32 68 L.length (L.map Lo.cells).flatten)(hw:∀e∈L,e.Wf)(g:h.get v3=some (.cells e.cells 32))(o:L.length<=1000)
 (a:∀i:Nat,i<=L.length->Ok (Wh c r K (.ptr D 0) (.ptr v3 0) (I i) h) Q):∀(f i:Nat),i<f->i<=L.length->Ok (Ix c r K f (.ptr D 0) (.ptr v3 0) (I i) h) Q:=by
 intro f;induction f with
 | zero=>intro i k;omega
 | succ f ih=>
  intro i k n;rw[Ix];simp only[I,Ac];by_cases h0:i=0
  ·subst h0
   simp only[show decide (((0:Nat):Int)>0)=false from rfl,Aa,Ac,P6];exact a 0 (by omega)
  ·have e3:decide ((i:Int)>0)=true:=by simp;omega
   simp only[e3,Aa];rw[Ah hd rfl (v:=cs) rfl]
   try simp only[Ac]
   rw[Ci,show(i:Int)-1=((i-1:Nat):Int) by omega,row.ix (by omega)];simp only[Aa,cz];rw[Ah (row.block (by omega)) rfl (Bt3 hw (j:=i-1) (by omega)),Ah g rfl (v:=I e.Mw) rfl];simp only[I,Ac,P6,Aa];by_cases b:L[i-1].Mw>e.Mw
   ·simp only[b,aB,Aa,Ac,Aga]
    rw[Ci,show(i:Int)-1=((i-1:Nat):Int) by omega];exact ih (i-1) (by omega) (by omega)
   ·simp only[b,aA,Aa,Ac]
    exact a i n
theorem A9o(A:By disp)(af:disp 105=some Bbl)(hK:10000<K)(hd:2<=d){S:K4}{G:Nat->Prop}(s:Ff h D S G)(hb:HB h)(w:e.Wf)(hl:S.ev.length+S.Pu.length<=199):
 Ok (Ag TT disp K d false 46 [.ptr D 0,.agg e.cells] h) fun _ h'=>∃l:List Lo,l.length<=S.ev.length+1/\Ff h' D { S with ev:=l } (Bi G h h')/\As G h h'/\HB h':=by
 obtain⟨e',rfl⟩:∃k,d=k+2:=⟨d-2,by omega⟩;rw[Ar7 A (by omega)];have el:=Lo.Ba w;simp only[Anl,Aa];obtain⟨h1,e_,x1,g1,_⟩:=nW h (.cells e.cells 32);rw[e_];have O:=x1.hb hb;rw[Cp g1 rfl (Aj el)]
 try simp only[Aa]
 refine(Bak (K:=K) e).Am ?_;rintro _ h2 ⟨⟨bb,rfl⟩,x2⟩;have a:=x2.hb O;have q:Ext h h2:=x1.trans x2;have s2:=s.ext q;have no:∀v,Ok (some (v,h2)) fun _ h'=>∃l:List Lo,l.length<=S.ev.length+1/\Ff h' D { S with ev:=l } (Bi G h h')/\As G h h'/\HB h':=fun v=>
  .ret ⟨S.ev,fM _,s2.grow s.lt q.next,Ext.to q,a⟩
 cases bb with
 | false=>
  simp only[Aa,Ac];exact no _
 | true=>
  obtain⟨V,M,qc,qh,cs,hs,ms,F,b⟩:=s2.Mw;have g3:=x2.at O g1;have hwf:=s.wf;simp only[Aa,Ac];rw[Ah b.Dc rfl (v:=cs) rfl,b.F7.Hf];simp only[Ac];have e5:decide ((S.ev.length:Int)≥256)=false:=by simp;omega
  simp only[e5,Aa,Ag1];rw[Ah b.Dc rfl (v:=cs) rfl,b.F7.Hf];refine Bhb (K:=K) b.Dc b.F7 hwf.wf g3 (by omega) ?_ K S.ev.length (by omega) (aD _);intro i hi;simp only[Wh,Aa,Ar];have lD:=a _ _ b.Dc;have l3:=a _ _ g3;rw[G2 lD,Ah b.Dc rfl (v:=cs) rfl]
  try simp only[Aa,Ar]
  rw[G2 l3,Cp g3 rfl (Aj el)]
  try simp only[Aa,Ar]
  rw[S7 (v:=.agg e.cells) rfl (by simp) (show((EV.agg e.cells).cells).length=68 from el) (by omega),Aq];have J:Ext h2 (h2.new (.cells (EV.agg e.cells).cells 32)):=As.new _ _;have g6:(h2.new (.cells (EV.agg e.cells).cells 32)).get h2.next=some (.cells e.cells 32):=Ad _ _
  have n6:(h2.new (.cells (EV.agg e.cells).cells 32)).next=h2.next+1:=rfl
  generalize (h2.new (.cells (EV.agg e.cells).cells 32))=f at J g6 n6⊢;have T:=J.hb a;have U:=b.F7.frame (h':=f.lift) fun y=>by rw[Br];exact J.get _ (a _ _ (b.F7.block y)) id
  obtain⟨W,e7,X,n7,c7⟩:=Bra (i:=i) U hwf.wf w (by rw[Br];exact g6) hi (by omega);have call:Ag TT disp K (e'+1) false 105 [cs,I i,.slice h2.next 0 1 1 false] f.lift=some (.slice f.lift.next 0 (S.ev.length+1) (S.ev.length+1) true,W):=by
   rw[Avv af];exact e7
  refine Ok.bC (S:=fun k=>0<S.ev.length/\k=qc) (P:=fun v h'=>v=.slice f.lift.next 0 (S.ev.length+1) (S.ev.length+1) true/\h'=W) ⟨_,_,call,rfl,rfl⟩ (fun _ _ p=>by rw[p.2];exact c7) ?_;rintro _ _ C s' ⟨rfl,rfl⟩ sm E aj;have H:=E.hb T;have X:=X.frame (h':=C) fun _=>sm.get _
  have al:0<S.ev.length->D≠qc:=fun y e=>by
   have:=b.F7.block y;rw[<-e,b.Dc]at this;cases this
  have gD:=E.at T (J.at a b.Dc) fun y=>al y.1 y.2
  have ao:=H _ _ gD
  try simp only[Aa,Ar]
  rw[Gt (by rcases aj with rfl|⟨w,rfl,_⟩<;>kernel_rfl)];refine Ok.st1 gD rfl rfl (by show 1<4;decide) ?_;have l6:f.lift.next=f.next:=rfl
  rw[l6]at X n7;have bp:C.next=f.next+1:=by rw[sm.next,n7]
  have l7:=H _ _ (X.block (by omega));have Y:As (fun j=>j=D) C (C.put D (.cells ([EV.ptr V 0,cs,hs,.map M].set 1 (.slice f.lift.next 0 (S.ev.length+1) (S.ev.length+1) true)) 149)):=(As.refl (S:=fun j=>j=D) C).Ao (.inl rfl) ao _;have Z:(C.put D (.cells ([EV.ptr V 0,cs,hs,.map M].set 1 (.slice f.lift.next 0 (S.ev.length+1) (S.ev.length+1) true)) 149)).get D=some (.cells [.ptr V 0,.slice f.next 0 (S.ev.length+1) (S.ev.length+1) true,hs,.map M] 149):=Af _ _ _;have aa:=Y.hb H;generalize C.put D _=h8 at Y Z aa⊢;have t:As (fun k=>k=D\/(0<S.ev.length/\k=qc)) h2 h8:=((Ext.to J).trans (E.mono fun k n=>.inr n)).trans (Y.mono fun k n=>.inl n);have t1:=q.next
  have t2:=J.next
  have t3:=t.next
  have ab:As G h h8:=q.to.then t fun k n hl=>by
   rcases n with rfl|⟨y,rfl⟩
   ·exact b.sub.2.1
   ·exact b.sub.2.2.2.1 y
  have B:∀k o,h2.get k=some o->k≠D->(0<S.ev.length->k≠qc)->h8.get k=some o:=fun k o g n1 n2=>t.at a g fun y=>y.elim n1 fun z=>n2 z.1 z.2
  have ad:(S.ev.take i++[e]++S.ev.drop i).length=S.ev.length+1:=by
   simp only[aG,bH,aU,List.length_singleton];omega
  have aq:¬f.next=D:=by omega
  have Gl:∀k,G k->k<f.next:=fun k n=>by have:=s.lt k n;omega
  refine .ret ⟨S.ev.take i++[e]++S.ev.drop i,by omega,⟨Bi.lt s.lt ab.next,⟨by show(S.ev.take i++[e]++S.ev.drop i).length+S.Pu.length<=200;omega,fun x u=>?_,hwf.hwf⟩,V,M,f.next,qh,.slice f.next 0 (S.ev.length+1) (S.ev.length+1) true,hs,ms,F,?_⟩,ab,aa⟩
  ·rcases bP.1 u with u|u
   ·rcases bP.1 u with u|u
    ·exact hwf.wf x (bO u)
    ·rw[aP.1 u];exact w
   ·exact hwf.wf x (aF u)
  ·refine⟨Z,?_,b.marks,?_,?_,?_,⟨fun k n=>.inl (b.sub.1 k n),.inl b.sub.2.1,.inl b.sub.2.2.1,fun _=>.inr ⟨by omega,by have:=Y.next;omega⟩,fun y=>.inl (b.sub.2.2.2.2 y)⟩,⟨b.apart.1,b.apart.2.1,fun _ y=>by have:=Gl _ (b.sub.1 _ y);omega,b.apart.2.2.2.1,fun _ y=>by have:=Gl _ (b.sub.2.2.2.2 y);omega⟩⟩
   ·refine B _ _ b.map (fun y=>?_) fun y z=>?_
    ·rw[y]at b;have:=b.map;rw[b.Dc]at this;cases this
    ·have h1:=b.F7.block y;rw[<-z,b.map]at h1;cases h1
   ·show Cc h8 _ f.next 32 68 (S.ev.take i++[e]++S.ev.drop i).length _
    rw[ad];exact X.frame fun _=>Y.get _ l7 aq
   ·refine b.Aqv.frame fun y=>?_
    have g:=b.Aqv.block y;rw[B _ _ g (fun z=>?_) fun z1 z2=>b.apart.2.2.2.2 z1 y z2.symm,g];rw[z,b.Dc]at g;cases g
   ·refine b.dev.frame t.next fun k n=>t.get k (b.dev.lt k n) fun z=>?_
    rcases z with rfl|⟨z1,rfl⟩
    ·exact b.apart.1 n
    ·exact b.apart.2.2.1 z1 n
end Go.Ev
