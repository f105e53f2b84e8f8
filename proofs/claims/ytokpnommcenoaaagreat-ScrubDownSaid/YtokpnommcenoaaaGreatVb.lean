import Derived.Test.YtokpnommcenoaaaGreatVa
import Derived.Test.YtokpnommcenoaaaGreatIn
set_option linter.all false
namespace Go.Ev
open Go.Proofs
set_option maxRecDepth 100000
variable {x:Me}{h:Ab}{D K d i m:Nat}{S:Mi}{F:Nat->Prop}{ih:EV->EV->EV->EV->EV->EV->EV->EV->Ab->R}{Q:EV->Ab->Prop}{e:Lg}{L:List Lg}{disp:Nat->Option FT}
def Bt4:EV->Nat
 | .int _ n=>n.toNat
 | _=>0
def Afv(x:List EV):List Nat:=x.map Bt4
theorem A1m(l:List Nat):Afv (Bk l)=l:=by
 unfold Afv Bk;rw[List.map_map];exact(cZ (fun a _=>rfl)).trans (List.map_id l)
theorem U8.Btn {x:List EV}(u:U8 x):Bk (Afv x)=x/\∀b∈Afv x,b<256:=by
 obtain⟨l,h,rfl⟩:=u;rw[A1m];exact⟨rfl,h⟩
theorem A1y(x:List EV):(Afv x).length=x.length:=bZ ..
theorem Ahr{t n:Nat}{l:List EV}{v w:EV}(a:h.get i=some (.cells l t))(hs:TT.size t=some n)(b:TT.agg t=some true)(f:l.length=n):Ii TT [.c (.ptr i 0) t,.v v,.v w] h=some (.tuple [.agg l,v,w],h):=by
 have g:Iw h i 0 n=some l:=by
  unfold Iw;rw[a];simp only;rw[<-Ai7];exact Ak f
 unfold Ii;simp only[Azi,hs,g,b]
noncomputable def A1d(s:List Nat)(x:Me)(An Bt:Int):Bool × List Nat:=
 if(atF s An x.off).2=0/\¬(atF s An x.off).1.kind=2/\(atF s An x.off).1.seq=x.seq/\(Vh (atF s An x.off).1).2=0/\(Vh (atF s An x.off).1).1.Bt=Bt/\((F0 (Vh (atF s An x.off).1).1.bytes:Nat):Int)=x.sum
 then(true,(Vh (atF s An x.off).1).1.bytes)else(false,D4)
noncomputable def Mi.Dz(S:Mi)(x:Me)(An Bt:Int):Mi × List Nat × Bool × Int:=
 if(S.dr.read An x.off).2.2=0 then({ S with dr:=(S.dr.read An x.off).1 },(A1d (Afv (S.dr.read An x.off).2.1) x An Bt).2,(A1d (Afv (S.dr.read An x.off).2.1) x An Bt).1,0)else
 if(S.dr.read An x.off).2.2=34 then({ S with dr:=(S.dr.read An x.off).1 },D4,false,34)else
 if(S.dr.read An x.off).2.2=32 then((({ S with dr:=(S.dr.read An x.off).1 }:Mi).Bv An).1,D4,false,if(({ S with dr:=(S.dr.read An x.off).1 }:Mi).Bv An).2=34 then 34 else 0)else
 ({ S with dr:=(S.dr.read An x.off).1 },D4,false,0)
theorem Bmx(A:Bw disp)(hK:10000<K)(hd:19<=d)(M:Df h m S F)(hb:HB h){z:Int}(g:Qu z):
 Ok (Ag TT disp K d false 228 [.ptr m 0,I z] h) fun v h'=>v=I (if(S.Bv z).2=34 then 34 else 0)/\Df h' m (S.Bv z).1 F/\Kf F h h'/\HB h':=by
 obtain⟨e,rfl⟩:∃k,d=k+1:=⟨d-1,by omega⟩;rw[Amg A (by omega)];simp only[Afp,dr];refine(Ym A hK M hb (by omega) g).Am ?_;rintro _ j ⟨rfl,b,f,a⟩;simp only[I,Ac,Zw];by_cases h0:(S.Bv z).2=34
 ·simp only[h0,aB,Aa,bI]
  exact .ret ⟨rfl,b,f,a⟩
 ·simp only[h0,aA,Aa,aY]
  exact .ret ⟨rfl,b,f,a⟩
theorem Arw:TT.size 85=some 32/\TT.agg 85=some true:=⟨by kernel_rfl,by kernel_rfl⟩
theorem Acj:D4.length=32:=rfl
theorem A8s {f:Fr}(w:f.Wf):(Vh f).1.Wf:=by
 unfold Vh;split
 ·exact En.Gn
 ·split
  ·exact En.Gn
  ·exact Bmw w.len w.u8
theorem Bk2 {s:List Nat}(a:s.length=64)(hu:∀b∈s,b<256)(x:Me)(An Bt:Int)(w:(atF s An x.off).1.Wf):(A1d s x An Bt).2.length=32/\∀b∈(A1d s x An Bt).2,b<256:=by
 unfold A1d;split
 ·exact⟨(A8s w).len,(A8s w).u8⟩
 ·exact⟨rfl,fun b hb=>by rw[bc hb];decide⟩
theorem A97(A:Bw disp)(hK:10000<K)(hd:20<=d)(M:Df h m S F)(hb:HB h)(x:Me){An:Int}(hz:Qu An)(Bt:Int):
 Ok (Ag TT disp K d false 180 [.ptr m 0,.agg x.cells,I An,I Bt] h) fun v h'=>v=.tuple [.agg (Bk (S.Dz x An Bt).2.1),.bool (S.Dz x An Bt).2.2.1,I (S.Dz x An Bt).2.2.2]/\(S.Dz x An Bt).2.1.length=32/\(∀b∈(S.Dz x An Bt).2.1,b<256)/\Df h' m (S.Dz x An Bt).1 F/\Kf F h h'/\HB h':=by
 obtain⟨dd,rfl⟩:∃k,d=k+1:=⟨d-1,by omega⟩;rw[Ams A (by omega)];simp only[Ag5,Aa];rw[show(h.new (.cells x.cells 53)).next=h.next+1 from rfl,F3];have x1:Ext h ((h.new (.cells x.cells 53)).new (.cells (Bk D4) 85)):=(Au.new _ _).C8 _;have B:((h.new (.cells x.cells 53)).new (.cells (Bk D4) 85)).get h.next=some (.cells x.cells 53):=by
  rw[Ay _ (aR _)];exact Ad _ _
 have u:((h.new (.cells x.cells 53)).new (.cells (Bk D4) 85)).get (h.next+1)=some (.cells (Bk D4) 85):=Ad _ _;have n1:((h.new (.cells x.cells 53)).new (.cells (Bk D4) 85)).next=h.next+2:=rfl
 generalize (h.new (.cells x.cells 53)).new (.cells (Bk D4) 85)=Y at x1 B u n1⊢;have O:=x1.hb hb;have M1:=M.ext hb x1;obtain⟨_,D,p,bl,ql,np,q,c,G,a⟩:=M1.s;have lm:=O _ _ a.Hf.Hf;have l5:=O _ _ B;have F5:Bi F h Y h.next:=.inr ⟨aD _,by omega⟩
 have F8:Bi F h Y (h.next+1):=.inr ⟨by omega,by omega⟩;rw[Gy lm,a.Hf.Dd]
 try simp only[Aa,Ar]
 rw[Gy l5,Ah B rfl (v:=I x.off) rfl]
 try simp only[Aa,Ar]
 refine Ok.bC (S:=G) (Ayx (K:=K) A (d:=dd) (by omega) (fun k hk=>A1w A (by omega) S.dr k hk) a.drv.lift (Da O) An x.off) (fun _ _ p=>p.2.2.2.1) ?_;rintro _ h2 h3 s' ⟨rfl,hlen,d2,_,bn⟩ sm c3 bo;have Z:=sm.hb bn;have bp:U8 (S.dr.read An x.off).2.1:=by
  obtain⟨V,M',qc,qh,cs,hs,ms,F',a'⟩:=d2.Mn;have w:=a'.dev.wf;have wz:∀i,i<(S.dr.begin An).dv.n->((S.dr.begin An).dv.zs i).Wf (S.dr.begin An).dv.size:=by
   have e1:(S.dr.read An x.off).1.dv=(S.dr.begin An).dv.begin An:=rfl;rw[e1]at w;unfold Dv.begin at w;split at w
   ·exact w.zs
   ·exact w.zs
  show U8 (Dv.read _ An x.off).1;unfold Dv.read;split
  ·exact U8.zs
  ·rename_i bt
   obtain⟨j,rfl,hj⟩:=Dv.A16 (show(S.dr.begin An).dv.Et An=0 by
    rcases Decidable.em ((S.dr.begin An).dv.Et An=0)with y|y
    ·exact y
    ·exact absurd y bt)
   unfold Afm;split
   ·exact U8.zs
   ·split
    ·rename_i hc
     have:x.off.toNat<((S.dr.begin (j:Int)).dv.zs j).l.length:=by
      have:=hc.2;rw[bG]at this;omega
     rw[bG,aH this];exact(wz j hj).u8 _ (av _)
    ·exact U8.zs
 obtain⟨M3,k3⟩:=M1.drv O a (d2.same sm) c3;have B:=k3.at O B F5;have u:=k3.at O u F8;obtain⟨hs,X⟩:=bp.Btn;have H:(Afv (S.dr.read An x.off).2.1).length=64:=by rw[A1y,hlen]
 unfold Mi.Dz;rw[<-hs];generalize hR:S.dr.read An x.off=R at M3 hs X H⊢;obtain⟨dr,sec,W⟩:=R;simp only at M3 hs X H⊢;rw[A1m];generalize Afv sec=s at hs X H⊢;simp only[Aa,Ar];rw[Gh (by rcases bo with rfl|⟨w,rfl,_⟩<;>kernel_rfl)];have ul:(Bk s).length=64:=by rw[Bg,H]
 refine Ok.st (Bk s) (Ad _ _) rfl (by show Fl (Bk s)=64;rw[Bf,ul]) (Bm (by rw[bT];exact ul.symm)) ?_;obtain⟨h4,e_,x4,aq,_⟩:=nP h3 (.cells (List.replicate 64 (EV.int .u8 0)) 30) (.cells (Bk s) 30);rw[e_];have g:=x4.hb Z;have B:=x4.at Z B;have u:=x4.at Z u;have M4:=(M3.ext Z x4).less fun i (P:Bi F h Y i)=>Or.inl P
 have aa:Kf F h h4:=(x1.As9 k3).trans x4.kf;have ln:h.next+2<=h4.next:=by have:=x4.next;have:=k3.next;omega
 have sub:∀i,F i->Bi F h Y i:=fun i P=>.inl P
 have fin:∀(l:List Nat) (ok:Bool) (W:Int) (o:Ab) (S5:Mi),l.length=32->(∀b∈l,b<256)->Df o m S5 (Bi F h Y)->Kf F h o->HB o->o.get (h.next+1)=some (.cells (Bk D4) 85) ->
  Ok (stE 32 (.ptr (h.next+1) 0) (.agg (Bk l)) o fun h'=>Ii TT [.c (.ptr (h.next+1) 0) 85,.v (.bool ok),.v (I W)] h') fun v h'=>v=.tuple [.agg (Bk l),.bool ok,I W]/\l.length=32/\(∀b∈l,b<256)/\Df h' m S5 F/\Kf F h h'/\HB h':=by
  intro l ok W o S5 hl bw M5 k5 E ab;have ul:(Bk l).length=32:=by rw[Bg,hl]
  have l8:=E _ _ ab;refine Ok.st (Bk l) ab rfl (by show Fl (Bk l)=32;rw[Bf,ul]) (Bm (by show(Bk D4).length=(Bk l).length;rw[ul,Bg,Acj])) ?_;rw[Ahr (Ae _ _ _) Arw.1 Arw.2 ul];have nF:¬F (h.next+1):=fun y=>by have:=M.lt _ y;omega
  have c8:Au (fun i=>i=h.next+1) o (o.put (h.next+1) (.cells (Bk l) 85)):=(Au.refl (S:=fun i=>i=h.next+1) o).Ao (.inl rfl) l8 _;exact .ret ⟨rfl,hl,bw,(M5.Agw c8 fun i P _=>P▸F8).less sub,k5.trans (c8.mono fun i P y=>nF (P▸y)),E.put l8 _⟩
 have no:∀(W:Int) (o:Ab) (S5:Mi),Df o m S5 (Bi F h Y)->Kf F h o->HB o->o.get (h.next+1)=some (.cells (Bk D4) 85) ->
  Ok (Bo (Mg 1) (List.replicate 32 (EV.int .u8 0)) [] fun v=>stE 32 (.ptr (h.next+1) 0) v o fun h'=>Ii TT [.c (.ptr (h.next+1) 0) 85,.v (.bool false),.v (I W)] h') fun v h'=>v=.tuple [.agg (Bk D4),.bool false,I W]/\D4.length=32/\(∀b∈D4,b<256)/\Df h' m S5 F/\Kf F h h'/\HB h':=fun W o S5 M5 k5 E ab=>by
  rw[F3,Aw (l:=Bk D4) rfl];exact fin D4 false W o S5 rfl (fun b hb=>by rw[bc hb];decide) M5 k5 E ab
 simp only[I,Ac];by_cases h0:W=0
 ·rw[aQ h0]
  simp only[h0,aB,Aa,Zq];have bx:=g _ _ aq;have bz:=g _ _ B;obtain⟨_,D,p,bl,ql,np,q,c,G,a⟩:=M4.s;have b5:=g _ _ a.Hf.Hf
  try simp only[Ar]
  rw[Gy b5,a.Hf.table]
  try simp only[Aa,Ar]
  rw[Gy bx,Cy aq rfl,Ak ul]
  try simp only[Aa,Ar]
  rw[Gy bz,Ah B rfl (v:=I x.off) rfl]
  try simp only[Aa,Ar]
  refine Ok.bE (Ax8 (K:=K) H X (Da g) hK An x.off) (fun _ _ p=>p.2.2) ?_;rintro _ dC o ⟨rfl,fw,_⟩ _ x5;have gw:=Bk2 H X x An Bt fw;have C:A1d s x An Bt=if(atF s An x.off).2=0/\¬(atF s An x.off).1.kind=2/\(atF s An x.off).1.seq=x.seq/\(Vh (atF s An x.off).1).2=0/\(Vh (atF s An x.off).1).1.Bt=Bt/\((F0 (Vh (atF s An x.off).1).1.bytes:Nat):Int)=x.sum
   then(true,(Vh (atF s An x.off).1).1.bytes)else(false,D4):=rfl
  generalize A1d s x An Bt=gd at C gw⊢;generalize atF s An x.off=Mn at fw C⊢;obtain⟨f,b6⟩:=Mn;simp only at fw C⊢;have E:=x5.hb g;have fl:=Fr.Az fw;have zl:=Fr.Az Fr.Gn;simp only[Aa,Aut,Ar];rw[Gh];refine Ok.st f.cells (Ad _ _) rfl (by show Fl f.cells=49;rw[Bf,fl]) (Bm (by rw[zl];exact fl.symm)) ?_;obtain⟨h6,e_,x6,ad,_⟩:=nP o (.cells Fr.zero.cells 247) (.cells f.cells 247);rw[e_];have T:=x6.hb E;have ae:Ext h4 h6:=x5.trans x6;have B:=ae.at g B;have u:=ae.at g u;have M6:=(M4.ext g ae).less fun i (P:Bi F h Y i)=>Or.inl P
  have ay:Kf F h h6:=aa.trans ae.kf;have stop:=no 0 h6 _ M6 ay T u;have l0:f.cells[0]? = some (I f.kind):=rfl;have l4:f.cells[4]? = some (I f.seq):=rfl;simp only[I,Ac]at stop⊢;by_cases c1:b6=0
  ·by_cases c2:f.kind=2
   ·rw[aM (by rintro⟨_,y,_⟩;exact y c2)]at C;subst C
    simp only[c1,aC,aA,Aa,Cz ad rfl,l0,I,Ac,c2,aB,Is,It];exact stop
   ·by_cases c3:f.seq=x.seq
    ·simp only[c1,aC,aA,Aa,Cz ad rfl,l0,I,Ac,c2,Is,l4,It]
     rw[Ah B rfl (v:=I x.seq) rfl];simp only[I,Ac,c3,aC,aA,Aa,Zt];rw[Cy ad rfl,Ak fl]
     try simp only[Aa]
     refine(A3q (K:=K) fw T hK).Am ?_;rintro _ h7 ⟨rfl,J,x7⟩;generalize Vh f=re at J C⊢;obtain⟨e,b8⟩:=re;simp only at J C⊢;have ca:=x7.hb T;have el:=En.Az J;have cb:=En.Az En.Gn;simp only[Aa];rw[En.Hj];refine Ok.st e.cells (Ad _ _) rfl (by show Fl e.cells=38;rw[Bf,el]) (Bm (by rw[cb];exact el.symm)) ?_;obtain⟨h8,e_,x8,U,_⟩:=nP h7 (.cells En.zero.cells 203) (.cells e.cells 203);rw[e_];have t:=x8.hb ca;have af:Ext h6 h8:=x7.trans x8;have B:=af.at T B;have u:=af.at T u;have M8:=(M6.ext T af).less fun i (P:Bi F h Y i)=>Or.inl P
     have a1:Kf F h h8:=ay.trans af.kf;have stop:=no 0 h8 _ M8 a1 t u;have cf:=t _ _ U;have ch:=t _ _ B;simp only[I,Ac]at stop⊢;by_cases c4:b8=0
     ·simp only[c4,aC,aA,Aa,Ar]
      rw[Gy cf,Ah U rfl (v:=I e.Bt) rfl];simp only[I,Ac];by_cases c5:e.Bt=Bt
      ·simp only[c5,aC,aA,Ir,Aa,Ar]
       obtain⟨_,D,p,bl,ql,np,q,c,G,a⟩:=M8.s;have cl:=t _ _ a.Hf.Hf;rw[Gy cl,a.Hf.table]
       try simp only[Aa,Ar]
       rw[show ∀k:EV->R,Nv 32 1 (.ptr h7.next 6) none none none k=k (.slice h7.next 6 32 32 false)from fun k=>rfl]
       try simp only[Aa,Ar]
       have bs:Bs h8.lift (.slice h7.next 6 32 32 false) h7.next 6 e.bytes:=by
        refine⟨32,false,_,e.cells,by rw[J.len],by rw[J.len];omega,by rw[Br];exact U,rfl,by rw[el,J.len];exact aD _,?_⟩;unfold En.cells;rw[J.len];show(Bk e.bytes).take 32=_;rw[bR (by rw[Bg,J.len];omega)]
       refine Ok.bE (A8c (K:=K) hK bs (Da t) J.u8 (by rw[J.len];omega)) (fun _ _ p=>p.2) ?_;rintro _ ea h9 ⟨rfl,_⟩ _ x9;have a2:=x9.hb t;have B:=x9.at t B;have u:=x9.at t u;have U:=x9.at t U;have M9:=(M8.ext t x9).less fun i (P:Bi F h Y i)=>Or.inl P
       have a5:Kf F h h9:=a1.trans x9.kf;have stop:=no 0 h9 _ M9 a5 a2 u;have H:=Bc2 J.u8;simp only[Nk,Aa,Ar];rw[show Cx .i64 (Int.ofNat (F0 e.bytes))=(F0 e.bytes:Int)from Cg (by show -9223372036854775808<=((F0 e.bytes:Nat):Int);omega) (by show((F0 e.bytes:Nat):Int)<=_;omega)];rw[Gy ch,Ah B rfl (v:=I x.sum) rfl];simp only[I,Ac]at stop⊢;by_cases c6:((F0 e.bytes:Nat):Int)=x.sum
       ·rw[aQ ⟨c1,c2,c3,c4,c5,c6⟩]at C;subst C
        simp only[c6,aC,aA,Ge,Aa,Zv];rw[Cy U rfl,show Mj e.cells (0+6) 32=some (Bk e.bytes)from by
         rw[E6 (by rw[el];omega)];show some ((Bk e.bytes).take 32)=_;rw[bR (by rw[Bg,J.len];omega)]]
        try simp only[Aa]
        exact fin e.bytes true 0 h9 _ J.len J.u8 M9 a5 a2 u
       ·rw[aM (by rintro⟨_,_,_,_,_,y⟩;exact c6 y)]at C;subst C
        simp only[c6,aF,aB,Ge,Aa];exact stop
      ·rw[aM (by rintro⟨_,_,_,_,y,_⟩;exact c5 y)]at C;subst C
       simp only[c5,aF,aB,Ir,Aa,Ge];exact stop
     ·rw[aM (by rintro⟨_,_,_,y,_⟩;exact c4 y)]at C;subst C
      simp only[c4,aF,aB,Ir,Aa,Ge];exact stop
    ·rw[aM (by rintro⟨_,_,y,_⟩;exact c3 y)]at C;subst C
     simp only[c1,aC,aA,Aa,Cz ad rfl,l0,I,Ac,c2,Is,l4,It];rw[Ah B rfl (v:=I x.seq) rfl];simp only[I,Ac,c3,aF,aB,Aa];exact stop
  ·rw[aM (by rintro⟨y,_⟩;exact c1 y)]at C;subst C
   simp only[c1,aF,aB,Aa,Is,It];exact stop
 ·rw[aM h0]
  simp only[h0,aA,Aa,Ac];by_cases ag:W=34
  ·rw[aQ ag]
   simp only[ag,aB,Aa];exact no 34 h4 _ M4 aa g u
  ·rw[aM ag]
   simp only[ag,aA,Aa,Ac];by_cases ah:W=32
   ·rw[aQ ah]
    simp only[ah,aB,Aa];rw[Aw (l:=Bk D4) rfl];refine(Bmx A hK (by omega) M4 g hz).Am ?_;rintro _ o ⟨rfl,M5,k5,E⟩;have u:=k5.at g u F8;have cx:Kf F h4 o:=k5.less sub;exact fin D4 false _ o _ rfl (fun b hb=>by rw[bc hb];decide) M5 (aa.trans cx) E u
   ·rw[aM ah]
    simp only[ah,aA,Aa];exact no 0 h4 _ M4 aa g u
section
def Ajw(g:Gm)(x:Me):Bool:=decide (x.state=1)&&meB g x
theorem A5k(M:Df h m S F)(hb:HB h)(o:Qu x.An)(hm:Qu x.Bt):
 Ok (Ke K (.ptr m 0) (.agg x.cells) h) fun v h'=>v=.bool (Ajw S.g x)/\Ext h h':=by
 simp only[Ke,Aa];obtain⟨B,t,f,j,_⟩:=nW h (.cells x.cells 53);rw[t];have b:=f.hb hb;obtain⟨_,D,p,bl,ql,np,q,c,G,a⟩:=M.s.ext hb f;have k:=b _ _ j;have lm:=b _ _ a.Hf.Hf;rw[Gy k,Ah j rfl (v:=I x.state) rfl];simp only[I,Ac];unfold Ajw;by_cases h0:x.state=1
 ·simp only[h0,aB,Aa,Ar,bD]
  rw[Gy k,Cy j rfl,Ak (n:=6) rfl]
  try simp only[Aa,Ar]
  rw[Gy lm,a.Hf.Bc0]
  try simp only[Aa,Ar]
  refine Ok.bE (Asu (K:=K) (Da b) h0 o hm) (fun _ _ p=>p.2) ?_;rintro _ u h2 ⟨rfl,_⟩ _ y;simp only[K8,Aa];exact .ret ⟨rfl,f.trans y⟩
 ·simp only[h0,aA,Aa,Ar,ak,K8]
  exact .ret ⟨rfl,f⟩
section
variable (A:Bw disp)(hK:10000<K)(hd:20<=d){b3 b4:Nat}(M:Df h m S F)(hb:HB h)(x:Me)
include A hK hd M hb
theorem A5q {ih:EV->EV->EV->EV->EV->Ab->R}{f:EV}{z mt:Int}(hz:Qu z)(E:∀k:EV->R,Azl 2 2 true 2 f (.int .i64 (i:Int)) k=k (.agg [I z,I mt]))(f3:F b3)(f4:F b4)
 (g3:h.get b3=some (.cells x.cells 53)) (u:h.get b4=some (.cells (Bk D4) 85))
 (g:(S.Dz x z mt).2.2.1=true\/¬(S.Dz x z mt).2.2.2=0->∀h',Df h' m (S.Dz x z mt).1 F->Kf (fun i=>F i/\¬i=b4) h h'->HB h'->((S.Dz x z mt).2.1.length=32/\∀b∈(S.Dz x z mt).2.1,b<256)->Q (.tuple [.agg (Bk (S.Dz x z mt).2.1),I (S.Dz x z mt).2.2.2]) h')
 (j:¬((S.Dz x z mt).2.2.1=true\/¬(S.Dz x z mt).2.2.2=0)->∀h',Df h' m (S.Dz x z mt).1 F->Kf F h h'->HB h'->Ok (L8 (Ag TT disp K d false) (Ag TT disp K d true) K ih (.ptr m 0) (.ptr b3 0) (.ptr b4 0) f (.int .i64 (i:Int)) h') Q) :
 Ok (Q3 (Ag TT disp K d false) (Ag TT disp K d true) K ih (.ptr m 0) (.ptr b3 0) (.ptr b4 0) f (.int .i64 (i:Int)) h) Q:=by
 simp only[Q3,E,Aa];refine Ok.st [I z,I mt] (Ad _ _) rfl rfl rfl ?_;obtain⟨h1,G,B,W,_⟩:=nP h (.cells [EV.int .i64 0,.int .i64 0] 71) (.cells [I z,I mt] 71);rw[G];have H:=B.hb hb;have M1:=M.ext hb B;have sub:∀i,F i->Bi F h h1 i:=fun i a=>.inl a
 rw[Cy (B.at hb g3) rfl,Ak (n:=6) rfl]
 try simp only[Aa]
 rw[show ∀k:EV->R,Axi 2 1 (.ptr h.next 0) (.int .i64 0) k=k (.ptr h.next 0)from fun k=>rfl,Ah W rfl (v:=I z) rfl];rw[show ∀k:EV->R,Axi 2 1 (.ptr h.next 0) (.int .i64 1) k=k (.ptr h.next 1)from fun k=>rfl,Ah W rfl (v:=I mt) rfl];refine(A97 A hK hd M1 H x hz mt).Am ?_;rintro _ h2 ⟨rfl,bl,J,M2,k2,t⟩;have O:Kf F h h2:=B.As9 k2;generalize S.Dz x z mt=C at g j bl J M2⊢;obtain⟨T,l,ok,P⟩:=C;simp only at g j bl J M2⊢;have ul:(Bk l).length=32:=by rw[Bg,bl]
 simp only[Aa,F3];refine Ok.st (Bk l) (Ad _ _) rfl (by show Fl (Bk l)=32;rw[Bf,ul]) (Bm (by show(Bk D4).length=(Bk l).length;rw[ul,Bg,Acj])) ?_;obtain⟨o,G,U,g8,_⟩:=nP h2 (.cells (Bk D4) 85) (.cells (Bk l) 85);rw[G];have p:=U.hb t;have X:=(M2.ext t U).less fun i (a:F i)=>Or.inl (sub i a)
 have q:Kf F h o:=O.trans U.kf;have u:=q.at hb u f4;have Y:=p _ _ u;have stop:(ok=true\/¬P=0)->Ok (Q2 32 (.ptr h2.next 0) o fun V=>stE 32 (.ptr b4 0) V o fun h=>Ii TT [.c (.ptr b4 0) 85,.v (I P)] h) Q:=fun hc=>by
  rw[Cy g8 rfl,Ak ul]
  try simp only[Aa]
  refine Ok.st (Bk l) u rfl (by show Fl (Bk l)=32;rw[Bf,ul]) (Bm (by show(Bk D4).length=(Bk l).length;rw[ul,Bg,Acj])) ?_;rw[Ea (Ae _ _ _) Arw.1 Arw.2 ul];have Z:Au (fun i=>i=b4) o (o.put b4 (.cells (Bk l) 85)):=(Au.refl (S:=fun i=>i=b4) o).Ao (.inl rfl) Y _;exact .ret (g hc _ (X.Agw Z fun i a _=>a▸f4) ((q.less fun i a=>a.1).trans (Z.mono fun i a y=>y.2 a)) (p.put Y _) ⟨bl,J⟩)
 simp only[I,Ac]at stop⊢;cases ok with
 | true=>
  simp only[Aa,Ac,Q1];exact stop (.inl rfl)
 | false=>
  simp only[Aa,Ac,Q1];by_cases h0:P=0
  ·simp only[h0,aC,aA,Aa]
   exact j (by rw[h0];simp) o X q p
  ·simp only[h0,aF,aB,Aa]
   exact stop (.inr h0)
end
noncomputable def Mi.read(S:Mi)(x:Me):Mi × List Nat × Int:=
 if Ajw S.g x=false then(S,D4,10)else
 if(S.Dz x x.An x.Bt).2.2.1=true\/¬(S.Dz x x.An x.Bt).2.2.2=0 then((S.Dz x x.An x.Bt).1,(S.Dz x x.An x.Bt).2.1,(S.Dz x x.An x.Bt).2.2.2)else
 if((S.Dz x x.An x.Bt).1.Dz x x.Bt x.An).2.2.1=true\/¬((S.Dz x x.An x.Bt).1.Dz x x.Bt x.An).2.2.2=0 then(((S.Dz x x.An x.Bt).1.Dz x x.Bt x.An).1,((S.Dz x x.An x.Bt).1.Dz x x.Bt x.An).2.1,((S.Dz x x.An x.Bt).1.Dz x x.Bt x.An).2.2.2)else
 (((S.Dz x x.An x.Bt).1.Dz x x.Bt x.An).1,D4,41)
theorem Bnp(A:Bw disp)(hK:10000<K)(hd:21<=d)(M:Df h m S F)(hb:HB h)(X:Qu x.An)(hm:Qu x.Bt):
 Ok (Ag TT disp K d false 193 [.ptr m 0,.agg x.cells] h) fun v h'=>v=.tuple [.agg (Bk (S.read x).2.1),I (S.read x).2.2]/\((S.read x).2.1.length=32/\∀b∈(S.read x).2.1,b<256)/\Df h' m (S.read x).1 F/\Kf F h h'/\HB h':=by
 obtain⟨dd,rfl⟩:∃k,d=k+1:=⟨d-1,by omega⟩;rw[Al4 A (by omega)];simp only[Aft,Aa];rw[show(h.new (.cells x.cells 53)).next=h.next+1 from rfl,F3];have J:Ext h ((h.new (.cells x.cells 53)).new (.cells (Bk D4) 85)):=(Au.new _ _).C8 _;have j:((h.new (.cells x.cells 53)).new (.cells (Bk D4) 85)).get h.next=some (.cells x.cells 53):=by
  rw[Ay _ (aR _)];exact Ad _ _
 have p:((h.new (.cells x.cells 53)).new (.cells (Bk D4) 85)).get (h.next+1)=some (.cells (Bk D4) 85):=Ad _ _;have n1:((h.new (.cells x.cells 53)).new (.cells (Bk D4) 85)).next=h.next+2:=rfl
 generalize (h.new (.cells x.cells 53)).new (.cells (Bk D4) 85)=h1 at J j p n1⊢;have q:=J.hb hb;have M1:=M.ext hb J;rw[Cy j rfl,Ak (n:=6) rfl]
 try simp only[Aa]
 refine(A5k (K:=K) M1 q X hm).Am ?_;rintro _ h2 ⟨rfl,E⟩;have f:=E.hb q;have G:Ext h h2:=J.trans E;have M2:=M.ext hb G;have j:=E.at q j;have p:=E.at q p;have ln:=E.next
 have f3:Bi F h h2 h.next:=.inr ⟨aD _,by omega⟩
 have f4:Bi F h h2 (h.next+1):=.inr ⟨by omega,by omega⟩;have sub:∀i,F i->Bi F h h2 i:=fun i t=>.inl t
 have back:∀h',Kf (fun i=>Bi F h h2 i/\¬i=h.next+1) h2 h'->Kf F h h':=fun h' k=>
  Au.then (S:=fun i=>¬F i) (Ext.to G) k fun i y hl z=>y ⟨.inl z,fun y=>by have:=M.lt i z;omega⟩
 have fin:∀(o:Ab) (T:Mi) (O:Int),Df o m T (Bi F h h2)->Kf (Bi F h h2) h2 o->HB o ->
  Ok (Bo (Mg 1) (Bk D4) [] fun v=>stE 32 (.ptr (h.next+1) 0) v o fun h'=>Ii TT [.c (.ptr (h.next+1) 0) 85,.v (I O)] h') fun v h'=>v=.tuple [.agg (Bk D4),I O]/\(D4.length=32/\∀b∈D4,b<256)/\Df h' m T F/\Kf F h h'/\HB h':=by
  intro o T O H u a;have p:=u.at f p f4;have Y:=a _ _ p;rw[Aw (l:=Bk D4) rfl];refine Ok.st (Bk D4) p rfl rfl (Bm rfl) ?_;rw[Ea (Ae _ _ _) Arw.1 Arw.2 rfl];have Z:Au (fun i=>i=h.next+1) o (o.put (h.next+1) (.cells (Bk D4) 85)):=(Au.refl (S:=fun i=>i=h.next+1) o).Ao (.inl rfl) Y _;exact .ret ⟨rfl,⟨rfl,fun b hb=>by rw[bc hb];decide⟩,(H.Agw Z fun i t _=>t▸f4).less sub,back _ ((u.less fun i t=>t.1).trans (Z.mono fun i t y=>y.2 t)),a.put Y _⟩
 unfold Mi.read;cases hl:Ajw S.g x with
 | false=>
  simp only[Aa,bI];exact fin h2 S 10 M2 (Au.refl _) f
 | true=>
  rw[aM (by simp)];simp only[Aa,Zy];rw[Ah j rfl (v:=I x.An) rfl]
  try simp only[Aa]
  rw[Ah j rfl (v:=I x.Bt) rfl,Aw (l:=[I x.An,I x.Bt]) rfl]
  try simp only[Aa]
  rw[Ah j rfl (v:=I x.Bt) rfl]
  try simp only[Aa]
  rw[Ah j rfl (v:=I x.An) rfl,Aw (l:=[I x.Bt,I x.An]) rfl,Aw (l:=[I x.An,I x.Bt,I x.Bt,I x.An]) rfl];obtain⟨k,rfl⟩:∃k,K=k+3:=⟨K-3,by omega⟩;rw[show Dr (Ag TT disp (k+3) dd false) (Ag TT disp (k+3) dd true) (k+3) (k+3)=Dr (Ag TT disp (k+3) dd false) (Ag TT disp (k+3) dd true) (k+3) (k+2+1)from rfl];rw[Dr];simp only[Ac,show decide ((0:Int)<2)=true from rfl,Aa];refine A5q A hK (by omega) M2 f x (i:=0) X (fun k=>rfl) f3 f4 j p ?_ ?_
  ·intro B o H u a bl
   rw[aQ B];exact⟨rfl,bl,H.less sub,back _ u,a⟩
  ·intro B o H u a
   rw[aM B];simp only[L8,Ac];rw[show Cx .i64 (((0:Nat):Int)+1)=((1:Nat):Int)from rfl];rw[show Dr (Ag TT disp (k+3) dd false) (Ag TT disp (k+3) dd true) (k+3) (k+2)=Dr (Ag TT disp (k+3) dd false) (Ag TT disp (k+3) dd true) (k+3) (k+1+1)from rfl];rw[Dr];simp only[Ac,show decide (((1:Nat):Int)<2)=true from rfl,Aa];have P:=u.at f j f3;have U:=u.at f p f4;refine A5q A hK (by omega) H a x (i:=1) hm (fun k=>rfl) f3 f4 P U ?_ ?_
   ·intro B h4 V W C bl
    rw[aQ B];exact⟨rfl,bl,V.less sub,back _ ((u.less fun i t=>t.1).trans W),C⟩
   ·intro B h4 V W C
    rw[aM B];simp only[L8,Ac];rw[show Cx .i64 (((1:Nat):Int)+1)=((2:Nat):Int)from rfl];rw[Dr];simp only[Ac,show decide (((2:Nat):Int)<2)=false from rfl,Aa,Zl,F3];exact fin h4 _ 41 V (u.trans W) C
section
variable (A:Bw disp)(hK:10000<K)(hd:20<=d){b3 b4 b7:Nat}(M:Df h m S F)(hb:HB h)(x:Me)
include A hK hd M hb
theorem A1z{v30:EV}{z mt:Int}{l0:List Nat}{n gd:Nat}(hn:n<=10)(ax:gd<=10)(u:l0.length=32)(hz:Qu z)(Y:∀k:EV->R,Azl 2 2 true 2 v30 (.int .i64 (i:Int)) k=k (.agg [I z,I mt]))(f3:F b3)(f4:F b4)(f7:F b7)(ay:b4≠b7)
 (g3:h.get b3=some (.cells x.cells 53)) (P:h.get b4=some (.cells (Bk D4) 85)) (B:h.get b7=some (.cells (Bk l0) 85))
 (q:¬(S.Dz x z mt).2.2.2=0->∀h',Df h' m (S.Dz x z mt).1 F->Kf (fun i=>F i/\¬i=b4/\¬i=b7) h h'->HB h'->Q (.tuple [.agg (Bk D4),I 0,I (S.Dz x z mt).2.2.2]) h')
 (f:(S.Dz x z mt).2.2.2=0->∀h',Df h' m (S.Dz x z mt).1 F->Kf (fun i=>F i/\¬i=b7) h h'->HB h'->(if(S.Dz x z mt).2.2.1=true then(S.Dz x z mt).2.1 else l0).length=32 ->
  h'.get b7=some (.cells (Bk (if(S.Dz x z mt).2.2.1=true then(S.Dz x z mt).2.1 else l0)) 85) ->
  Ok (Hu (Ag TT disp K d false) (Ag TT disp K d true) K ih (.ptr m 0) (.ptr b3 0) (.ptr b4 0) (.ptr b7 0) (I ((if(S.Dz x z mt).2.2.1=true/\(S.Dz x z mt).1.Jr z=false then n+1 else n:Nat):Int)) (I ((if(S.Dz x z mt).2.2.1=true then gd+1 else gd:Nat):Int)) v30 (.int .i64 (i:Int)) h') Q) :
 Ok (Px (Ag TT disp K d false) (Ag TT disp K d true) K ih (.ptr m 0) (.ptr b3 0) (.ptr b4 0) (.ptr b7 0) (I (n:Int)) (I (gd:Int)) v30 (.int .i64 (i:Int)) h) Q:=by
 simp only[Px,Y,Aa];refine Ok.st [I z,I mt] (Ad _ _) rfl rfl rfl ?_;obtain⟨U,Z,V,a,n1⟩:=nP h (.cells [EV.int .i64 0,.int .i64 0] 71) (.cells [I z,I mt] 71);rw[Z];have E:=V.hb hb;have M1:=M.ext hb V;have aa:Bi F h U h.next:=.inr ⟨aD _,by omega⟩
 have sub:∀i,F i->Bi F h U i:=fun i b=>.inl b
 rw[Cy (V.at hb g3) rfl,Ak (n:=6) rfl]
 try simp only[Aa]
 rw[show ∀k:EV->R,Axi 2 1 (.ptr h.next 0) (.int .i64 0) k=k (.ptr h.next 0)from fun k=>rfl,Ah a rfl (v:=I z) rfl];rw[show ∀k:EV->R,Axi 2 1 (.ptr h.next 0) (.int .i64 1) k=k (.ptr h.next 1)from fun k=>rfl,Ah a rfl (v:=I mt) rfl];refine(A97 A hK hd M1 E x hz mt).Am ?_;rintro _ h2 ⟨rfl,bl,bu,M2,k2,t⟩;have ab:Kf F h h2:=V.As9 k2;have a:=k2.at E a aa;generalize S.Dz x z mt=C at q f bl bu M2⊢;obtain⟨T,l,ok,er⟩:=C;simp only at q f bl bu M2⊢;have ul:(Bk l).length=32:=by rw[Bg,bl]
 have ad:(Bk l0).length=32:=by rw[Bg,u]
 simp only[Aa,F3];refine Ok.st (Bk l) (Ad _ _) rfl (by show Fl (Bk l)=32;rw[Bf,ul]) (Bm (by show(Bk D4).length=(Bk l).length;rw[ul,Bg,Acj])) ?_;obtain⟨g,Z,W,ae,_⟩:=nP h2 (.cells (Bk D4) 85) (.cells (Bk l) 85);rw[Z];have j:=W.hb t;have a:=W.at t a;have G:=(M2.ext t W).less fun i (b:Bi F h U i)=>Or.inl b
 have M3:=G.less sub;have o:Kf F h g:=ab.trans W.kf;have P:=o.at hb P f4;have B:=o.at hb B f7;have l4:=j _ _ P;have l7:=j _ _ B;simp only[I,Ac];by_cases h0:er=0
 ·simp only[h0,aC,aA,Aa,Xs]
  have f:=f h0;cases ok with
  | false=>
   simp only[Aa];have:=f g M3 (o.less fun i b=>b.1) j (by simp[u]) (by simpa using B);simpa [I]using this
  | true=>
   simp only[Aa,Xd];rw[Cy ae rfl,Ak ul]
   try simp only[Aa]
   refine Ok.st (Bk l) B rfl (by show Fl (Bk l)=32;rw[Bf,ul]) (Bm (by show(Bk l0).length=(Bk l).length;rw[ul,ad])) ?_;have c7:Au (fun i=>i=b7) g (g.put b7 (.cells (Bk l) 85)):=(Au.refl (S:=fun i=>i=b7) g).Ao (.inl rfl) l7 _;have M4:=G.Agw c7 fun i b _=>by
    have b:i=b7:=b;subst b;exact sub _ f7
   have H:(g.put b7 (.cells (Bk l) 85)).get b7=some (.cells (Bk l) 85):=Ae _ _ _;have a:(g.put b7 (.cells (Bk l) 85)).get h.next=some (.cells [I z,I mt] 71):=by
    rw[Af _ (fun y=>by have:=M.lt _ f7;omega)];exact a
   have J:Kf (fun i=>F i/\¬i=b7) h (g.put b7 (.cells (Bk l) 85)):=(o.less fun i b=>b.1).trans (c7.mono fun i b y=>y.2 b);have p:HB (g.put b7 (.cells (Bk l) 85)):=j.put l7 _;generalize g.put b7 (.cells (Bk l) 85)=h4 at M4 H a J p⊢;simp only[I,Ac];rw[Cg (n:=(gd:Int)+1) (by omega) (by omega),Cg (n:=(n:Int)+1) (by omega) (by omega)];rw[show ∀k:EV->R,Axi 2 1 (.ptr h.next 0) (.int .i64 0) k=k (.ptr h.next 0)from fun k=>rfl,Ah a rfl (v:=I z) rfl];refine(Jg (K:=K) M4.s p hz).Am ?_;rintro _ h5 ⟨rfl,X⟩;have ag:=X.hb p;have M5:=(M4.ext p X).less fun i (b:Bi F h U i)=>Or.inl b
   have this:=f h5 (M5.less sub) (J.trans X.kf) ag (by simpa using bl) (by simpa using X.at p H);cases O:T.Jr z with
   | true=>
    simp only[Aa];simpa [I,O]using this
   | false=>
    simp only[Aa,Ac];simpa [I,O]using this
 ·simp only[h0,aF,aB,Aa]
  rw[Aw (l:=Bk D4) rfl];refine Ok.st (Bk D4) P rfl rfl (Bm rfl) ?_;rw[Ahr (Ae _ _ _) Arw.1 Arw.2 rfl];have c8:Au (fun i=>i=b4) g (g.put b4 (.cells (Bk D4) 85)):=(Au.refl (S:=fun i=>i=b4) g).Ao (.inl rfl) l4 _;exact .ret (q h0 _ (M3.Agw c8 fun i b _=>b▸f4) ((o.less fun i b=>b.1).trans (c8.mono fun i b y=>y.2.1 b)) (j.put l4 _))
end
noncomputable def Mi.A6p(x:Me)(C D:Mi × List Nat × Bool × Int):Mi × List Nat × Int × Int:=
 if ¬D.2.2.2=0 then(D.1,D4,0,D.2.2.2)else
 if C.2.2.1=false/\D.2.2.1=false then(D.1,D4,0,41)else
 (D.1,if D.2.2.1=true then D.2.1 else C.2.1,(if C.2.2.1=true/\C.1.Jr x.An=false then 1 else 0)+(if D.2.2.1=true/\D.1.Jr x.Bt=false then 1 else 0),0)
noncomputable def Mi.check(S:Mi)(x:Me):Mi × List Nat × Int × Int:=
 if Ajw S.g x=false then(S,D4,0,10)else
 if ¬(S.Dz x x.An x.Bt).2.2.2=0 then((S.Dz x x.An x.Bt).1,D4,0,(S.Dz x x.An x.Bt).2.2.2)else
 Mi.A6p x (S.Dz x x.An x.Bt) ((S.Dz x x.An x.Bt).1.Dz x x.Bt x.An)
theorem A5g(A:Bw disp)(hK:10000<K)(hd:21<=d)(M:Df h m S F)(hb:HB h)(hz:Qu x.An)(hm:Qu x.Bt):
 Ok (Ag TT disp K d false 106 [.ptr m 0,.agg x.cells] h) fun v h'=>v=.tuple [.agg (Bk (S.check x).2.1),I (S.check x).2.2.1,I (S.check x).2.2.2]/\(S.check x).2.1.length=32/\Df h' m (S.check x).1 F/\Kf F h h'/\HB h':=by
 obtain⟨dd,rfl⟩:∃k,d=k+1:=⟨d-1,by omega⟩;rw[Akp A (by omega)];simp only[Aeo,Aa];rw[show(h.new (.cells x.cells 53)).next=h.next+1 from rfl,F3];have x1:Ext h ((h.new (.cells x.cells 53)).new (.cells (Bk D4) 85)):=(Au.new _ _).C8 _;have j:((h.new (.cells x.cells 53)).new (.cells (Bk D4) 85)).get h.next=some (.cells x.cells 53):=by
  rw[Ay _ (aR _)];exact Ad _ _
 have t:((h.new (.cells x.cells 53)).new (.cells (Bk D4) 85)).get (h.next+1)=some (.cells (Bk D4) 85):=Ad _ _;have n1:((h.new (.cells x.cells 53)).new (.cells (Bk D4) 85)).next=h.next+2:=rfl
 generalize (h.new (.cells x.cells 53)).new (.cells (Bk D4) 85)=h1 at x1 j t n1⊢;have u:=x1.hb hb;have M1:=M.ext hb x1;rw[Cy j rfl,Ak (n:=6) rfl]
 try simp only[Aa]
 refine(A5k (K:=K) M1 u hz hm).Am ?_;rintro _ h2 ⟨rfl,W⟩;have o:=W.hb u;have J:Ext h h2:=x1.trans W;have M2:=M.ext hb J;have j:=W.at u j;have t:=W.at u t;have ln:=W.next
 have a2:Bi F h h2 (h.next+1):=.inr ⟨by omega,by omega⟩;have l4:=o _ _ t;unfold Mi.check;cases hl:Ajw S.g x with
 | false=>
  simp only[Aa,bI];rw[Aw (l:=Bk D4) rfl];refine Ok.st (Bk D4) t rfl rfl (Bm rfl) ?_;rw[Ahr (Ae _ _ _) Arw.1 Arw.2 rfl];have O:Ext h (h2.put (h.next+1) (.cells (Bk D4) 85)):=J.Ao (.inr (by omega)) l4 _;exact .ret ⟨rfl,rfl,(M.ext hb O).less fun i (f:F i)=>Or.inl f,O.kf,o.put l4 _⟩
 | true=>
  rw[aM (by simp)];simp only[Aa,Xh,F3];obtain⟨B,e_,O,g7,n3⟩:=nW h2 (.cells (Bk D4) 85);rw[e_];have P:=O.hb o;have X:Ext h B:=J.trans O;have M3:=M.ext hb X;have j:=O.at o j;have t:=O.at o t;have f3:Bi F h B h.next:=.inr ⟨aD _,by omega⟩
  have f4:Bi F h B (h.next+1):=.inr ⟨by omega,by omega⟩;have f7:Bi F h B h2.next:=.inr ⟨by omega,by omega⟩
  have E:h.next+1≠h2.next:=by omega
  have sub:∀i,F i->Bi F h B i:=fun i f=>.inl f
  have back:∀h',Kf (fun i=>Bi F h B i/\¬i=h.next+1/\¬i=h2.next) B h'->Kf F h h':=fun h' k=>
   Au.then (S:=fun i=>¬F i) (Ext.to X) k fun i y hl z=>y ⟨.inl z,fun y=>by have:=M.lt i z;omega,fun y=>by have:=M.lt i z;omega⟩
  rw[Ah j rfl (v:=I x.An) rfl]
  try simp only[Aa]
  rw[Ah j rfl (v:=I x.Bt) rfl,Aw (l:=[I x.An,I x.Bt]) rfl]
  try simp only[Aa]
  rw[Ah j rfl (v:=I x.Bt) rfl]
  try simp only[Aa]
  rw[Ah j rfl (v:=I x.An) rfl,Aw (l:=[I x.Bt,I x.An]) rfl,Aw (l:=[I x.An,I x.Bt,I x.Bt,I x.An]) rfl];obtain⟨k,rfl⟩:∃k,K=k+3:=⟨K-3,by omega⟩;rw[show De (Ag TT disp (k+3) dd false) (Ag TT disp (k+3) dd true) (k+3) (k+3)=De (Ag TT disp (k+3) dd false) (Ag TT disp (k+3) dd true) (k+3) (k+2+1)from rfl];rw[De];simp only[Ac,show decide ((0:Int)<2)=true from rfl,Aa];refine A1z A hK (by omega) M3 P x (i:=0) (n:=0) (gd:=0) (l0:=D4) (by omega) (by omega) rfl hz (fun k=>rfl) f3 f4 f7 E j t g7 ?_ ?_
  ·intro T h4 M4 U G
   rw[aQ T];exact⟨rfl,rfl,M4.less sub,back _ U,G⟩
  ·intro T h4 M4 U G p Y
   rw[aM (show ¬¬(S.Dz x x.An x.Bt).2.2.2=0 from fun y=>y T)];have ai:=U.at P j ⟨f3,by omega⟩;have Z:=U.at P t ⟨f4,E⟩;generalize S.Dz x x.An x.Bt=C at M4 p Y⊢;simp only[Hu,Ac];rw[show Cx .i64 (((0:Nat):Int)+1)=((1:Nat):Int)from rfl];rw[show De (Ag TT disp (k+3) dd false) (Ag TT disp (k+3) dd true) (k+3) (k+2)=De (Ag TT disp (k+3) dd false) (Ag TT disp (k+3) dd true) (k+3) (k+1+1)from rfl];rw[De];simp only[Ac,show decide (((1:Nat):Int)<2)=true from rfl,Aa];have aj:(if C.2.2.1=true/\C.1.Jr x.An=false then 0+1 else 0)<=10:=by split<;>omega
   have al:(if C.2.2.1=true then 0+1 else 0)<=10:=by split<;>omega
   refine A1z A hK (by omega) M4 G x (i:=1) aj al p hm (fun k=>rfl) f3 f4 f7 E ai Z Y ?_ ?_
   ·intro T V M5 k5 H
    unfold Mi.A6p;rw[aQ T];exact⟨rfl,rfl,M5.less sub,back _ ((U.less fun i f=>⟨f.1,f.2.2⟩).trans k5),H⟩
   ·intro T V M5 k5 H a b
    unfold Mi.A6p;rw[aM (show ¬¬(C.1.Dz x x.Bt x.An).2.2.2=0 from fun y=>y T)];have aa:=k5.at G Z ⟨f4,E⟩;have ab:=H _ _ aa;generalize C.1.Dz x x.Bt x.An=D at M5 a b⊢;simp only[Hu,Ac];rw[show Cx .i64 (((1:Nat):Int)+1)=((2:Nat):Int)from rfl];rw[De];simp only[Ac,show decide (((2:Nat):Int)<2)=false from rfl,Aa,Xn,I];have ao:Kf (fun i=>Bi F h B i/\¬i=h.next+1/\¬i=h2.next) B V:=(U.less fun i f=>⟨f.1,f.2.2⟩).trans (k5.less fun i f=>⟨f.1,f.2.2⟩);have fin:∀(l:List Nat) (n er:Int),l.length=32->Ok (stE 32 (.ptr (h.next+1) 0) (.agg (Bk l)) V fun h'=>Ii TT [.c (.ptr (h.next+1) 0) 85,.v (I n),.v (I er)] h') fun v h'=>v=.tuple [.agg (Bk l),I n,I er]/\l.length=32/\Df h' m D.1 F/\Kf F h h'/\HB h':=by
     intro l n er hl;have ul:(Bk l).length=32:=by rw[Bg,hl]
     refine Ok.st (Bk l) aa rfl (by show Fl (Bk l)=32;rw[Bf,ul]) (Bm (by show(Bk D4).length=(Bk l).length;rw[ul,Bg,Acj])) ?_;rw[Ahr (Ae _ _ _) Arw.1 Arw.2 ul];have c8:Au (fun i=>i=h.next+1) V (V.put (h.next+1) (.cells (Bk l) 85)):=(Au.refl (S:=fun i=>i=h.next+1) V).Ao (.inl rfl) ab _;exact .ret ⟨rfl,hl,(M5.Agw c8 fun i f _=>f▸f4).less sub,back _ (ao.trans (c8.mono fun i f y=>y.2.1 f)),H.put ab _⟩
    cases c1:C.2.2.1 with
    | false=>
     rw[c1]at a b;cases c2:D.2.2.1 with
     | false=>
      simp only[aW,gE,aY,and_self,bI,show((0:Nat):Int)=0 from rfl,aB,Aa,F3];rw[Aw (l:=Bk D4) rfl];exact fin D4 0 41 rfl
     | true=>
      rw[c2]at a b;simp only[bI]at a b;simp only[aW,gE,aY,fW,and_false,gF,bI,Aa,K3,show decide (((0+1:Nat):Int)=0)=false from rfl];rw[Cy b rfl,Ak (by rw[Bg,a])];simp only[Aa];have:=fin D.2.1 ((if D.1.Jr x.Bt=false then 0+1 else 0:Nat):Int) 0 a;simp only[I]at this;cases q:D.1.Jr x.Bt<;>simpa [q]using this
    | true=>
     rw[c1]at p a b;simp only[bI]at p;cases c2:D.2.2.1 with
     | false=>
      rw[c2]at a b;simp only[bI,aW,aY]at a b;simp only[fW,gE,aY,gF,bI,aW,Aa,K3,show decide (((0+1:Nat):Int)=0)=false from rfl];rw[Cy b rfl,Ak (by rw[Bg,a])];simp only[Aa];have:=fin C.2.1 ((if C.1.Jr x.An=false then 0+1 else 0:Nat):Int) 0 p;simp only[I]at this;cases q:C.1.Jr x.An<;>simpa [q]using this
     | true=>
      rw[c2]at a b;simp only[bI]at a b;simp only[fW,gE,aY,gF,bI,Aa,K3,show decide (((0+1+1:Nat):Int)=0)=false from rfl];rw[Cy b rfl,Ak (by rw[Bg,a])];simp only[Aa];have:=fin D.2.1 (((if C.1.Jr x.An=false then 1 else 0)+(if D.1.Jr x.Bt=false then 1 else 0):Nat):Int) 0 a;simp only[I]at this;cases au:C.1.Jr x.An<;>cases q:D.1.Jr x.Bt<;>simpa [au,q]using this
end
noncomputable def Kx.new(n size:Nat)(op:Int):Kx:=⟨⟨n,size,op,0,false,fun _=>Zn.empty⟩,[],[]⟩
noncomputable def Mi.new(g:Gm):Mi:=⟨g,Kx.new (g.D*g.Z).toNat g.S.toNat g.O,fun _=>[],fun _=>0,-1,-1,0⟩
theorem Brh {g:Gm}(s:Sm g){h0:Ab}(hb:HB h){V M zl p bl ql:Nat}{z q c:Nat->Nat}(d:Aiz h D V M zl (g.D*g.Z).toNat z (fun _=>0) g.S g.O 0 false .Al .Al [] (fun _=>Zn.empty))
 (nd:(h0.next<=D/\h0.next<=M)/\h0.next<=V/\h0.next<=zl/\∀d,d<(g.D*g.Z).toNat->h0.next<=z d) (E:Ab4 h m D p bl (g.D*g.Z).toNat g (-1) (-1) 0 (fun _=>0)) (v:E0 h p ql g.D.toNat q c g (fun _=>[]))
 (T:(h0.next<=m/\h0.next<=bl)/\h0.next<=p/\h0.next<=ql/\∀d,d<g.D.toNat->h0.next<=q d/\h0.next<=c d) (le:h0.next<=h.next):Df h m (Mi.new g) (fun i=>i<h0.next):=by
 have:=s.d0;have:=s.d1;have:=s.z0;have:=s.z1;have:=s.s0;have:=s.s1;obtain⟨m0,m1⟩:=N3 (a:=g.D) (b:=g.Z) (A:=8) (B:=64) (by omega) (by omega) (by omega) (by omega);have j:=d.dev;have u:∀i,i<(g.D*g.Z).toNat->∃s,h.get (z i)=some (.cells [s,I g.S,I 0,I 0,.bool false] 277):=fun i f=>by
  obtain⟨s,a,_⟩:=(j.An i f).An;exact⟨s,a⟩
 have U:∀i,A3y V zl (g.D*g.Z).toNat z (fun _=>0) (fun _=>Zn.empty) i->i=V\/i=zl\/∃d,d<(g.D*g.Z).toNat/\i=z d:=fun i f=>by
  rcases f with y|y|⟨d,hd,y|y⟩
  ·exact .inl y
  ·exact .inr (.inl y)
  ·exact .inr (.inr ⟨d,hd,y⟩)
  ·exact absurd rfl y.1
 have kind:∀i o,h.get i=some o->(∀l,o≠.cells l 152)->(∀l,o≠.vec l 220 1)->(∀l,o≠.cells l 277)->¬A3y V zl (g.D*g.Z).toNat z (fun _=>0) (fun _=>Zn.empty) i:=fun i o t H h2 J f=>by
  rcases U i f with y|y|⟨d,hd,y⟩
  ·subst y;rw[j.dev]at t;cases t;exact H _ rfl
  ·subst y;rw[j.row]at t;cases t;exact h2 _ rfl
  ·subst y
   obtain⟨s,hs⟩:=u d hd;rw[hs]at t;cases t;exact J _ rfl
 have C:∀i o,h.get i=some o->(∀l,o≠.cells l 152)->(∀l,o≠.vec l 220 1)->(∀l,o≠.cells l 277)->(∀l,o≠.cells l 149)->(∀l,o≠.map l)->¬(i=D\/i=M\/A3y V zl (g.D*g.Z).toNat z (fun _=>0) (fun _=>Zn.empty) i):=fun i o t H h2 J h4 W f=>by
  rcases f with y|y|y
  ·subst y;rw[d.Dd]at t;cases t;exact h4 _ rfl
  ·subst y;rw[d.marks]at t;cases t;exact W _ rfl
  ·exact kind i o t H h2 J y
 have n:∀i,A3y V zl (g.D*g.Z).toNat z (fun _=>0) (fun _=>Zn.empty) i->i<h.next/\h0.next<=i:=fun i f=>by
  rcases U i f with y|y|⟨d,hd,y⟩
  ·subst y;exact⟨hb _ _ j.dev,nd.2.1⟩
  ·subst y;exact⟨hb _ _ j.row,nd.2.2.1⟩
  ·subst y
   obtain⟨s,hs⟩:=u d hd;exact⟨hb _ _ hs,nd.2.2.2 d hd⟩
 have hS:g.S=((g.S.toNat:Nat):Int):=by omega
 have G:Fh h D (Kx.new (g.D*g.Z).toNat g.S.toNat g.O) (fun i=>i=D\/i=M\/A3y V zl (g.D*g.Z).toNat z (fun _=>0) (fun _=>Zn.empty) i):=by
  have X:∀size:Nat,0<size->Zn.empty.Wf size:=fun size hs=>⟨fun x P=>(by cases P),by show 0<=4;omega,aD _,cU _,fun _=>hs⟩
  have Y:Dv.Wf ⟨(g.D*g.Z).toNat,g.S.toNat,g.O,0,false,fun _=>Zn.empty⟩:=⟨by show g.S.toNat<=64;omega,by show(g.D*g.Z).toNat<=512;omega,fun i _=>X _ (by show 0<g.S.toNat;omega)⟩;refine⟨fun i f=>?_,⟨by show 0+0<=200;omega,fun e he=>(by cases he),fun e he=>(by cases he)⟩,V,M,0,0,.Al,.Al,[],_,d.Dd,d.marks,fun e he=>(by cases he),.nil _ _ _ _,.nil _ _ _ _,⟨Y,fun i f=>(n i f).1,zl,z,fun _=>0,?_,fun i f=>f⟩,⟨fun i f=>.inr (.inr f),.inl rfl,.inr (.inl rfl),fun y=>absurd y (bS _),fun y=>absurd y (bS _)⟩,⟨kind _ _ d.Dd (by intros;simp) (by intros;simp) (by intros;simp),kind _ _ d.marks (by intros;simp) (by intros;simp) (by intros;simp),fun y=>absurd y (bS _),fun y=>absurd y (bS _),fun y=>absurd y (bS _)⟩⟩
  ·rcases f with y|y|y
   ·subst y;exact hb _ _ d.Dd
   ·subst y;exact hb _ _ d.marks
   ·exact(n i y).1
  ·show Lt h V zl (g.D*g.Z).toNat z (fun _=>0) ((g.S.toNat:Nat):Int) g.O 0 false (fun _=>Zn.empty)
   rw[<-hS];exact j
 refine⟨⟨fun i f=>f.1,D,p,bl,ql,g.D.toNat,q,c,_,E,v,⟨rfl,s,fun d _=>cU _⟩,G,?_,?_⟩,fun i f=>aN f le,{ toWp:=⟨s,fun d _ x P=>by cases P⟩,op:=.inl ⟨rfl,rfl⟩ }⟩
 ·have k:=C
  exact⟨k _ _ E.Hf (by intros;simp) (by intros;simp) (by intros;simp) (by intros;simp) (by intros;simp),k _ _ E.Azx (by intros;simp) (by intros;simp) (by intros;simp) (by intros;simp) (by intros;simp),k _ _ v.Gd (by intros;simp) (by intros;simp) (by intros;simp) (by intros;simp) (by intros;simp),k _ _ v.row (by intros;simp) (by intros;simp) (by intros;simp) (by intros;simp) (by intros;simp),
   fun d hd=>⟨k _ _ (v.que d hd) (by intros;simp) (by intros;simp) (by intros;simp) (by intros;simp) (by intros;simp),k _ _ (v.chan d hd) (by intros;simp) (by intros;simp) (by intros;simp) (by intros;simp) (by intros;simp)⟩⟩
 ·refine⟨fun i f=>?_,⟨hb _ _ E.Hf,by omega⟩,⟨hb _ _ E.Azx,by omega⟩,⟨hb _ _ v.Gd,by omega⟩,⟨hb _ _ v.row,by omega⟩,fun d hd=>⟨⟨hb _ _ (v.que d hd),by have:=T.2.2.2 d hd;omega⟩,⟨hb _ _ (v.chan d hd),by have:=T.2.2.2 d hd;omega⟩⟩⟩
  rcases f with y|y|y
  ·subst y;exact⟨hb _ _ d.Dd,by omega⟩
  ·subst y;exact⟨hb _ _ d.marks,by omega⟩
  ·exact⟨(n i y).1,by have:=(n i y).2;omega⟩
section
noncomputable def Mi.Bd7(S:Mi)(z:Int):Mi:={ S with ps:=(Ash S.g S.g.D.toNat S.ps z).2 }
theorem Mi.Wf.Bd7(w:S.Wf){z:Int}(a:0<=Eu S.g z->¬S.bad z.toNat=1):(S.Bd7 z).Wf:={ toWp:=⟨w.sm,A5v w.ps _ _ a⟩,op:=w.op }
section
variable(M:Df h m S F)(hb:HB h)
include M
theorem Mx(hb:HB h):Ok (Cd K (.ptr m 0) h) fun v h'=>v=gV S.g/\Ext h h':=by
 obtain⟨_,D,p,bl,ql,np,q,c,G,a⟩:=M.s;exact A06 a.Hf hb
theorem A91:Ll K (.ptr m 0) h=some (.tuple [I S.a,I S.b,I S.u],h):=by
 obtain⟨_,D,p,bl,ql,np,q,c,G,a⟩:=M.s;exact A1j a.Hf
include hb
theorem Bam(A:Bw disp)(hK:10000<K):∃p,Cm K (.ptr m 0) h=some (.ptr p 0,h)/\∀{d:Nat},8<=d->∀{z:Int},Qu z->(0<=Eu S.g z->¬S.bad z.toNat=1) ->
 Ok (Ag TT disp K d false 67 [.ptr p 0,I z] h) fun v h'=>v=I (Ash S.g S.g.D.toNat S.ps z).1/\Df h' m (S.Bd7 z) F/\Kf F h h'/\HB h':=by
 obtain⟨lt,D,p,bl,ql,np,q,c,G,a⟩:=M.s;refine⟨p,Yu a.Hf,fun {d} hd {z} j k=>?_⟩;have b:=a.psz.nd;subst b;refine(Bf1 (K:=K) A a.Gd hb a.psz (by omega) hd z j).mono ?_;rintro v h' ⟨c3,f,rfl,n,o⟩;obtain⟨a3,cH⟩:=a.Arq hb n o c3;obtain⟨t,u⟩:=M.made (Sa.mono (H:=Out F h) ⟨fun i y=>aN y.1 cH.next,D,p,bl,ql,_,q,c,G,a3⟩ (fun _=>.inl) (Bi.lt lt cH.next)) cH (M.wf.Bd7 k);exact⟨rfl,t,u,f⟩
end
end
theorem Lg.Az(w:e.Wf):e.cells.length=68:=by
 unfold Lg.cells;rw[aG,w.len];rfl
theorem A8t(e:Lg):Ok (Tl K (.agg e.cells) h) fun v h'=>(∃b:Bool,v=.bool b)/\Ext h h':=by
 simp only[Tl,Aa];obtain⟨a,j,f,g,_⟩:=nW h (.cells e.cells 32);rw[j];rw[Ah g rfl (v:=I e.Mn) rfl];simp only[I,Ac];by_cases a:e.Mn≥0
 ·simp only[a,aB,Aa]
  rw[Ah g rfl (v:=I e.kind) rfl];simp only[I,Ac,Ub];by_cases h2:e.kind≥1
  ·simp only[h2,aB,Aa,Ac]
   rw[Ah g rfl (v:=I e.kind) rfl];simp only[I,Ac,Ol,Aa];exact .ret ⟨⟨_,rfl⟩,f⟩
  ·simp only[h2,aA,Aa,Ac,Ol]
   exact .ret ⟨⟨_,rfl⟩,f⟩
 ·simp only[a,aA,Aa,Ac,Ub,Ol]
  exact .ret ⟨⟨_,rfl⟩,f⟩
theorem A7s(hw:∀e∈L,e.Wf):∀x∈L.map Lg.cells,x.length=68:=fun x a=>by
 obtain⟨e,he,rfl⟩:=cY.1 a;exact Lg.Az (hw e he)
theorem Btv(hw:∀e∈L,e.Wf){j:Nat}(hj:j<L.length):(L.map Lg.cells).flatten[j*68]? = some (I L[j].Mn):=by
 obtain⟨e,a,h2⟩:=Avm (n:=68) (A7s hw) (j:=j) (by rw[bZ];exact hj);rw[e,b9,bY (by omega),a,fR,List.getElem_map,bh (by rw[Lg.Az (hw _ (av hj))];omega)];rfl
theorem Bq9(hw:∀e∈L,e.Wf)(a:i<=L.length):(L.map Lg.cells).flatten.take (i*68)=((L.take i).map Lg.cells).flatten/\(L.map Lg.cells).flatten.drop (i*68)=((L.drop i).map Lg.cells).flatten:=by
 have e:(L.map Lg.cells).flatten=((L.take i).map Lg.cells).flatten++((L.drop i).map Lg.cells).flatten:=by
  rw[<-cj,<-bm,List.take_append_drop]
 have b:((L.take i).map Lg.cells).flatten.length=i*68:=by
  rw[Afa (n:=68) _ (A7s fun e he=>hw e (bO he)),bZ,bH,dW a]
 rw[e,<-b,dM,dG];exact⟨rfl,rfl⟩
theorem Bq4{s:EV}{q j:Nat}(row:Cc h s q 32 68 L.length (L.map Lg.cells).flatten)(hw:∀e∈L,e.Wf)(w:e.Wf)(hj:h.get j=some (.cells e.cells 32))(g:i<=L.length)(o:L.length<=1000):
 ∃h',Bic s (i:Int) j h=some (.slice h.next 0 (L.length+1) (L.length+1) true,h')/\Cc h' (.slice h.next 0 (L.length+1) (L.length+1) true) h.next 32 68 (L.length+1) ((L.take i++[e]++L.drop i).map Lg.cells).flatten/\h'.next=h.next+1/\Au (fun k=>0<L.length/\k=q) h h':=by
 have el:=Lg.Az w;have fl:((L.take i++[e]++L.drop i).map Lg.cells).flatten=((L.take i).map Lg.cells).flatten++e.cells++((L.drop i).map Lg.cells).flatten:=by
  simp only[bm,cj,cR,List.map_nil,br,List.flatten_nil,cS]
 have hlen:((L.take i++[e]++L.drop i).map Lg.cells).flatten.length=(L.length+1)*68:=by
  rw[Afa (n:=68) _ (A7s fun x a=>?_)]
  ·rw[bZ];simp only[aG,bH,aU,List.length_singleton];omega
  ·rcases bP.1 a with a|a
   ·rcases bP.1 a with a|a
    ·exact hw x (bO a)
    ·rw[aP.1 a];exact w
   ·exact hw x (aE a)
 have nil:L.length=0->((L.take i++[e]++L.drop i).map Lg.cells).flatten=e.cells/\i=0:=fun h0=>by
  have:=bX.1 h0;subst this;obtain rfl:i=0:=by simpa using g
  exact⟨by simp,rfl⟩
 rcases row with⟨h0,_,hs⟩|⟨p,rfl,t,f⟩
 ·obtain⟨u,rfl⟩:=nil h0
  have res:Bic s ((0:Nat):Int) j h=some (.slice h.next 0 1 1 true,h.new (.vec e.cells 32 68)):=by
   unfold Bic;rw[hj];rcases hs with rfl|⟨b,rfl⟩
   ·simp[el]
   ·simp[el]
  refine⟨_,by rw[h0];exact res,.inr ⟨by omega,rfl,?_,hlen⟩,rfl,Au.new _ _⟩;rw[u];exact Ad _ _
 ·obtain⟨t1,t2⟩:=Bq9 hw g
  refine⟨(h.del q).new (.vec (((L.take i++[e]++L.drop i).map Lg.cells).flatten) 32 68),?_,.inr ⟨by omega,rfl,?_,hlen⟩,rfl,(Au.del h (.inl ⟨p,rfl⟩)).trans (Au.new _ _)⟩
  ·unfold Bic
   rw[hj];simp only[el,gF,t];rw[aQ (by omega),aQ ⟨f,by omega,o⟩,bG,t1,t2,fl]
  ·rw[show h.next=(h.del q).next from rfl,Ad]
theorem Bjt {c r:Ai}{V M qc v3:Nat}{cs hs:EV}(hd:h.get D=some (.cells [.ptr V 0,cs,hs,.map M] 149))(row:Cc h cs qc 32 68 L.length (L.map Lg.cells).flatten)(hw:∀e∈L,e.Wf)(g:h.get v3=some (.cells e.cells 32))(o:L.length<=1000)
 (a:∀i:Nat,i<=L.length->Ok (Wd c r K (.ptr D 0) (.ptr v3 0) (I i) h) Q):∀(f i:Nat),i<f->i<=L.length->Ok (Iv c r K f (.ptr D 0) (.ptr v3 0) (I i) h) Q:=by
 intro f;induction f with
 | zero=>intro i k;omega
 | succ f ih=>
  intro i k n;rw[Iv];simp only[I,Ac];by_cases h0:i=0
  ·subst h0
   simp only[show decide (((0:Nat):Int)>0)=false from rfl,Aa,Ac,Ps];exact a 0 (by omega)
  ·have e3:decide ((i:Int)>0)=true:=by simp;omega
   simp only[e3,Aa];rw[Ah hd rfl (v:=cs) rfl]
   try simp only[Ac]
   rw[Cg,show(i:Int)-1=((i-1:Nat):Int) by omega,row.ix (by omega)];simp only[Aa,cz];rw[Ah (row.block (by omega)) rfl (Btv hw (j:=i-1) (by omega)),Ah g rfl (v:=I e.Mn) rfl];simp only[I,Ac,Ps,Aa];by_cases b:L[i-1].Mn>e.Mn
   ·simp only[b,aB,Aa,Ac,Aff]
    rw[Cg,show(i:Int)-1=((i-1:Nat):Int) by omega];exact ih (i-1) (by omega) (by omega)
   ·simp only[b,aA,Aa,Ac]
    exact a i n
theorem Bao(A:Bw disp)(af:disp 105=some Bal)(hK:10000<K)(hd:2<=d){S:Kx}{G:Nat->Prop}(s:Fh h D S G)(hb:HB h)(w:e.Wf)(hl:S.ev.length+S.Pd.length<=199):
 Ok (Ag TT disp K d false 46 [.ptr D 0,.agg e.cells] h) fun _ h'=>∃l:List Lg,l.length<=S.ev.length+1/\Fh h' D { S with ev:=l } (Bi G h h')/\Au G h h'/\HB h':=by
 obtain⟨e',rfl⟩:∃k,d=k+2:=⟨d-2,by omega⟩;rw[Ar6 A (by omega)];have el:=Lg.Az w;simp only[Ani,Aa];obtain⟨h1,e_,x1,g1,_⟩:=nW h (.cells e.cells 32);rw[e_];have O:=x1.hb hb;rw[Cn g1 rfl (Ak el)]
 try simp only[Aa]
 refine(A8t (K:=K) e).Am ?_;rintro _ h2 ⟨⟨bb,rfl⟩,x2⟩;have a:=x2.hb O;have q:Ext h h2:=x1.trans x2;have s2:=s.ext q;have no:∀v,Ok (some (v,h2)) fun _ h'=>∃l:List Lg,l.length<=S.ev.length+1/\Fh h' D { S with ev:=l } (Bi G h h')/\Au G h h'/\HB h':=fun v=>
  .ret ⟨S.ev,fL _,s2.grow s.lt q.next,Ext.to q,a⟩
 cases bb with
 | false=>
  simp only[Aa,Ac];exact no _
 | true=>
  obtain⟨V,M,qc,qh,cs,hs,ms,F,b⟩:=s2.Mn;have g3:=x2.at O g1;have hwf:=s.wf;simp only[Aa,Ac];rw[Ah b.Dd rfl (v:=cs) rfl,b.F7.Hc];simp only[Ac];have e5:decide ((S.ev.length:Int)≥256)=false:=by simp;omega
  simp only[e5,Aa,Agm];rw[Ah b.Dd rfl (v:=cs) rfl,b.F7.Hc];refine Bjt (K:=K) b.Dd b.F7 hwf.wf g3 (by omega) ?_ K S.ev.length (by omega) (aD _);intro i hi;simp only[Wd,Aa,Ar];have lD:=a _ _ b.Dd;have l3:=a _ _ g3;rw[Gy lD,Ah b.Dd rfl (v:=cs) rfl]
  try simp only[Aa,Ar]
  rw[Gy l3,Cn g3 rfl (Ak el)]
  try simp only[Aa,Ar]
  rw[Sl (v:=.agg e.cells) rfl (by simp) (show((EV.agg e.cells).cells).length=68 from el) (by omega),Ap];have J:Ext h2 (h2.new (.cells (EV.agg e.cells).cells 32)):=Au.new _ _;have g6:(h2.new (.cells (EV.agg e.cells).cells 32)).get h2.next=some (.cells e.cells 32):=Ad _ _
  have n6:(h2.new (.cells (EV.agg e.cells).cells 32)).next=h2.next+1:=rfl
  generalize (h2.new (.cells (EV.agg e.cells).cells 32))=f at J g6 n6⊢;have T:=J.hb a;have U:=b.F7.frame (h':=f.lift) fun y=>by rw[Br];exact J.get _ (a _ _ (b.F7.block y)) id
  obtain⟨W,e7,X,n7,c7⟩:=Bq4 (i:=i) U hwf.wf w (by rw[Br];exact g6) hi (by omega);have call:Ag TT disp K (e'+1) false 105 [cs,I i,.slice h2.next 0 1 1 false] f.lift=some (.slice f.lift.next 0 (S.ev.length+1) (S.ev.length+1) true,W):=by
   rw[Avg af];exact e7
  refine Ok.bC (S:=fun k=>0<S.ev.length/\k=qc) (P:=fun v h'=>v=.slice f.lift.next 0 (S.ev.length+1) (S.ev.length+1) true/\h'=W) ⟨_,_,call,rfl,rfl⟩ (fun _ _ p=>by rw[p.2];exact c7) ?_;rintro _ _ C s' ⟨rfl,rfl⟩ sm E aj;have H:=E.hb T;have X:=X.frame (h':=C) fun _=>sm.get _
  have al:0<S.ev.length->D≠qc:=fun y e=>by
   have:=b.F7.block y;rw[<-e,b.Dd]at this;cases this
  have gD:=E.at T (J.at a b.Dd) fun y=>al y.1 y.2
  have ao:=H _ _ gD
  try simp only[Aa,Ar]
  rw[Gh (by rcases aj with rfl|⟨w,rfl,_⟩<;>kernel_rfl)];refine Ok.st1 gD rfl rfl (by show 1<4;decide) ?_;have l6:f.lift.next=f.next:=rfl
  rw[l6]at X n7;have bp:C.next=f.next+1:=by rw[sm.next,n7]
  have l7:=H _ _ (X.block (by omega));have Y:Au (fun j=>j=D) C (C.put D (.cells ([EV.ptr V 0,cs,hs,.map M].set 1 (.slice f.lift.next 0 (S.ev.length+1) (S.ev.length+1) true)) 149)):=(Au.refl (S:=fun j=>j=D) C).Ao (.inl rfl) ao _;have Z:(C.put D (.cells ([EV.ptr V 0,cs,hs,.map M].set 1 (.slice f.lift.next 0 (S.ev.length+1) (S.ev.length+1) true)) 149)).get D=some (.cells [.ptr V 0,.slice f.next 0 (S.ev.length+1) (S.ev.length+1) true,hs,.map M] 149):=Ae _ _ _;have aa:=Y.hb H;generalize C.put D _=h8 at Y Z aa⊢;have t:Au (fun k=>k=D\/(0<S.ev.length/\k=qc)) h2 h8:=((Ext.to J).trans (E.mono fun k n=>.inr n)).trans (Y.mono fun k n=>.inl n);have t1:=q.next
  have t2:=J.next
  have t3:=t.next
  have ab:Au G h h8:=q.to.then t fun k n hl=>by
   rcases n with rfl|⟨y,rfl⟩
   ·exact b.sub.2.1
   ·exact b.sub.2.2.2.1 y
  have B:∀k o,h2.get k=some o->k≠D->(0<S.ev.length->k≠qc)->h8.get k=some o:=fun k o g n1 n2=>t.at a g fun y=>y.elim n1 fun z=>n2 z.1 z.2
  have ad:(S.ev.take i++[e]++S.ev.drop i).length=S.ev.length+1:=by
   simp only[aG,bH,aU,List.length_singleton];omega
  have aq:¬f.next=D:=by omega
  have Gl:∀k,G k->k<f.next:=fun k n=>by have:=s.lt k n;omega
  refine .ret ⟨S.ev.take i++[e]++S.ev.drop i,by omega,⟨Bi.lt s.lt ab.next,⟨by show(S.ev.take i++[e]++S.ev.drop i).length+S.Pd.length<=200;omega,fun x u=>?_,hwf.hwf⟩,V,M,f.next,qh,.slice f.next 0 (S.ev.length+1) (S.ev.length+1) true,hs,ms,F,?_⟩,ab,aa⟩
  ·rcases bP.1 u with u|u
   ·rcases bP.1 u with u|u
    ·exact hwf.wf x (bO u)
    ·rw[aP.1 u];exact w
   ·exact hwf.wf x (aE u)
  ·refine⟨Z,?_,b.marks,?_,?_,?_,⟨fun k n=>.inl (b.sub.1 k n),.inl b.sub.2.1,.inl b.sub.2.2.1,fun _=>.inr ⟨by omega,by have:=Y.next;omega⟩,fun y=>.inl (b.sub.2.2.2.2 y)⟩,⟨b.apart.1,b.apart.2.1,fun _ y=>by have:=Gl _ (b.sub.1 _ y);omega,b.apart.2.2.2.1,fun _ y=>by have:=Gl _ (b.sub.2.2.2.2 y);omega⟩⟩
   ·refine B _ _ b.map (fun y=>?_) fun y z=>?_
    ·rw[y]at b;have:=b.map;rw[b.Dd]at this;cases this
    ·have h1:=b.F7.block y;rw[<-z,b.map]at h1;cases h1
   ·show Cc h8 _ f.next 32 68 (S.ev.take i++[e]++S.ev.drop i).length _
    rw[ad];exact X.frame fun _=>Y.get _ l7 aq
   ·refine b.Aou.frame fun y=>?_
    have g:=b.Aou.block y;rw[B _ _ g (fun z=>?_) fun z1 z2=>b.apart.2.2.2.2 z1 y z2.symm,g];rw[z,b.Dd]at g;cases g
   ·refine b.dev.frame t.next fun k n=>t.get k (b.dev.lt k n) fun z=>?_
    rcases z with rfl|⟨z1,rfl⟩
    ·exact b.apart.1 n
    ·exact b.apart.2.2.1 z1 n
end Go.Ev
