import Derived.Test.YtadnemjjlacolaaGreatVa
set_option linter.all false
namespace Go.Ev
open Go.Proofs
set_option maxRecDepth 100000
variable {x:Me}{h:Aa}{K d i m:Nat}{S:Mi}{F:Nat->Prop}{ih:EV->EV->EV->EV->EV->EV->EV->EV->Aa->R}{Q:EV->Aa->Prop}{Am mt off:Int}{g:Gm}{D:Dv}{e:En}{disp:Nat->Option FT}
def Bpf:EV->Nat
 | .int _ n=>n.toNat
 | _=>0
def Ah2(x:List EV):List Nat:=x.map Bpf
theorem Aro(l:List Nat):Ah2 (Bj l)=l:=by
 unfold Ah2 Bj;rw[List.map_map];exact(cW (fun a _=>rfl)).trans (List.map_id l)
theorem U8.Bqf {x:List EV}(u:U8 x):Bj (Ah2 x)=x/\∀b∈Ah2 x,b<256:=by
 obtain⟨l,h,rfl⟩:=u;rw[Aro];exact⟨rfl,h⟩
theorem Bal(x:List EV):(Ah2 x).length=x.length:=bZ ..
theorem Age{t n:Nat}{l:List EV}{v w:EV}(a:h.get i=some (.cells l t))(hs:TT.size t=some n)(b:TT.agg t=some true)(f:l.length=n):It TT [.c (.ptr i 0) t,.v v,.v w] h=some (.tuple [.agg l,v,w],h):=by
 have j:Ir h i 0 n=some l:=by
  unfold Ir;rw[a];simp only;rw[<-Agm];exact Ak f
 unfold It;simp only[Awm,hs,j,b]
noncomputable def Asg(s:List Nat)(x:Me)(Ah Ay:Int):Bool × List Nat:=
 if(atF s Ah x.off).2=0/\¬(atF s Ah x.off).1.kind=2/\(atF s Ah x.off).1.seq=x.seq/\(T7 (atF s Ah x.off).1).2=0/\(T7 (atF s Ah x.off).1).1.Ay=Ay/\((E6 (T7 (atF s Ah x.off).1).1.bytes:Nat):Int)=x.sum
 then(true,(T7 (atF s Ah x.off).1).1.bytes)else(false,Dd)
noncomputable def Mi.Db(S:Mi)(x:Me)(Ah Ay:Int):Mi × List Nat × Bool × Int:=
 if(S.dr.read Ah x.off).2.2=0 then({ S with dr:=(S.dr.read Ah x.off).1 },(Asg (Ah2 (S.dr.read Ah x.off).2.1) x Ah Ay).2,(Asg (Ah2 (S.dr.read Ah x.off).2.1) x Ah Ay).1,0)else
 if(S.dr.read Ah x.off).2.2=34 then({ S with dr:=(S.dr.read Ah x.off).1 },Dd,false,34)else
 if(S.dr.read Ah x.off).2.2=32 then((({ S with dr:=(S.dr.read Ah x.off).1 }:Mi).Ce Ah).1,Dd,false,if(({ S with dr:=(S.dr.read Ah x.off).1 }:Mi).Ce Ah).2=34 then 34 else 0)else
 ({ S with dr:=(S.dr.read Ah x.off).1 },Dd,false,0)
theorem Bgy(A:Bv disp)(hK:10000<K)(hd:19<=d)(M:Cv h m S F)(hb:HB h){z:Int}(j:Rng z):
 Ok (Ag TT disp K d false 107 [.ptr m 0,I z] h) fun v h'=>v=I (if(S.Ce z).2=34 then 34 else 0)/\Cv h' m (S.Ce z).1 F/\Kf F h h'/\HB h':=by
 obtain⟨e,rfl⟩:∃k,d=k+1:=⟨d-1,by omega⟩;rw[Ajo A (by omega)];simp only[Aen,dr];refine(Ani A hK M hb (by omega) j).Ap ?_;rintro _ n ⟨rfl,b,f,a⟩;simp only[I,Ac,Ye];by_cases h0:(S.Ce z).2=34
 ·simp only[h0,aB,Ab,bI]
  exact .ret ⟨rfl,b,f,a⟩
 ·simp only[h0,aA,Ab,ak]
  exact .ret ⟨rfl,b,f,a⟩
theorem Apf:TT.size 49=some 32/\TT.agg 49=some true:=⟨by kernel_rfl,by kernel_rfl⟩
theorem Zz:Dd.length=32:=rfl
theorem A6h {f:Fr}(w:f.Wf):(T7 f).1.Wf:=by
 unfold T7;split
 ·exact En.Gs
 ·split
  ·exact En.Gs
  ·exact Bid w.len w.u8
theorem Bha {s:List Nat}(a:s.length=64)(hu:∀b∈s,b<256)(x:Me)(Ah Ay:Int)(w:(atF s Ah x.off).1.Wf):(Asg s x Ah Ay).2.length=32/\∀b∈(Asg s x Ah Ay).2,b<256:=by
 unfold Asg;split
 ·exact⟨(A6h w).len,(A6h w).u8⟩
 ·exact⟨rfl,fun b hb=>by rw[bL hb];decide⟩
theorem A5i(A:Bv disp)(hK:10000<K)(hd:20<=d)(M:Cv h m S F)(hb:HB h)(x:Me){Ah:Int}(hz:Rng Ah)(Ay:Int):
 Ok (Ag TT disp K d false 66 [.ptr m 0,.agg x.cells,I Ah,I Ay] h) fun v h'=>v=.tuple [.agg (Bj (S.Db x Ah Ay).2.1),.bool (S.Db x Ah Ay).2.2.1,I (S.Db x Ah Ay).2.2.2]/\(S.Db x Ah Ay).2.1.length=32/\(∀b∈(S.Db x Ah Ay).2.1,b<256)/\Cv h' m (S.Db x Ah Ay).1 F/\Kf F h h'/\HB h':=by
 obtain⟨dd,rfl⟩:∃k,d=k+1:=⟨d-1,by omega⟩;rw[Ajp A (by omega)];simp only[Aeq,Ab];rw[show(h.new (.cells x.cells 47)).next=h.next+1 from rfl,I6];have x1:Ext h ((h.new (.cells x.cells 47)).new (.cells (Bj Dd) 49)):=(Ar.new _ _).Df _;have C:((h.new (.cells x.cells 47)).new (.cells (Bj Dd) 49)).get h.next=some (.cells x.cells 47):=by
  rw[Aw _ (aL _)];exact Ad _ _
 have B:((h.new (.cells x.cells 47)).new (.cells (Bj Dd) 49)).get (h.next+1)=some (.cells (Bj Dd) 49):=Ad _ _;have n1:((h.new (.cells x.cells 47)).new (.cells (Bj Dd) 49)).next=h.next+2:=rfl
 generalize (h.new (.cells x.cells 47)).new (.cells (Bj Dd) 49)=X at x1 C B n1⊢;have O:=x1.hb hb;have M1:=M.ext hb x1;obtain⟨_,D,p,bl,ql,np,q,c,G,a⟩:=M1.s;have lm:=O _ _ a.H9.H9;have l5:=O _ _ C;have F5:Bf F h X h.next:=.inr ⟨aE _,by omega⟩
 have F8:Bf F h X (h.next+1):=.inr ⟨by omega,by omega⟩;rw[Jb lm,a.H9.Dr]
 try simp only[Ab,Au]
 rw[Jb l5,Al C rfl (v:=I x.off) rfl]
 try simp only[Ab,Au]
 refine Ok.bC (S:=G) (A6j (K:=K) A (d:=dd) (by omega) (fun k hk=>A4q A (by omega) S.dr k hk) a.drv.lift (Dg O) Ah x.off) (fun _ _ p=>p.2.2.2.1) ?_;rintro _ h2 h3 s' ⟨rfl,hlen,d2,_,bb⟩ sm c3 bf;have Y:=sm.hb bb;have bj:U8 (S.dr.read Ah x.off).2.1:=by
  obtain⟨V,M',qc,qh,cs,hs,ms,F',a'⟩:=d2.Ow;have w:=a'.dev.wf;have wz:∀i,i<(S.dr.begin Ah).dv.n->((S.dr.begin Ah).dv.zs i).Wf (S.dr.begin Ah).dv.size:=by
   have e1:(S.dr.read Ah x.off).1.dv=(S.dr.begin Ah).dv.begin Ah:=rfl;rw[e1]at w;unfold Dv.begin at w;split at w
   ·exact w.zs
   ·exact w.zs
  show U8 (Dv.read _ Ah x.off).1;unfold Dv.read;split
  ·exact U8.zs
  ·rename_i bk
   obtain⟨j,rfl,hj⟩:=Dv.A3r (show(S.dr.begin Ah).dv.E1 Ah=0 by
    rcases Decidable.em ((S.dr.begin Ah).dv.E1 Ah=0)with y|y
    ·exact y
    ·exact absurd y bk)
   unfold Ad9;split
   ·exact U8.zs
   ·split
    ·rename_i hc
     have:x.off.toNat<((S.dr.begin (j:Int)).dv.zs j).l.length:=by
      have:=hc.2;rw[bD]at this;omega
     rw[bD,aD this];exact(wz j hj).u8 _ (a9 _)
    ·exact U8.zs
 obtain⟨M3,k3⟩:=M1.drv O a (d2.same sm) c3;have C:=k3.at O C F5;have B:=k3.at O B F8;obtain⟨hs,W⟩:=bj.Bqf;have J:(Ah2 (S.dr.read Ah x.off).2.1).length=64:=by rw[Bal,hlen]
 unfold Mi.Db;rw[<-hs];generalize hR:S.dr.read Ah x.off=R at M3 hs W J⊢;obtain⟨dr,sec,er⟩:=R;simp only at M3 hs W J⊢;rw[Aro];generalize Ah2 sec=s at hs W J⊢;simp only[Ab,Au];rw[J6 (by rcases bf with rfl|⟨w,rfl,_⟩<;>kernel_rfl)];have ul:(Bj s).length=64:=by rw[Bg,J]
 refine Ok.st (Bj s) (Ad _ _) rfl (by show Fz (Bj s)=64;rw[Bc,ul]) (Bk (by rw[bV];exact ul.symm)) ?_;obtain⟨h4,e_,x4,ao,_⟩:=nP h3 (.cells (List.replicate 64 (EV.int .u8 0)) 30) (.cells (Bj s) 30);rw[e_];have o:=x4.hb Y;have C:=x4.at Y C;have B:=x4.at Y B;have M4:=(M3.ext Y x4).less fun i (P:Bf F h X i)=>Or.inl P
 have Z:Kf F h h4:=(x1.Ar5 k3).trans x4.kf;have ln:h.next+2<=h4.next:=by have:=x4.next;have:=k3.next;omega
 have sub:∀i,F i->Bf F h X i:=fun i P=>.inl P
 have fin:∀(l:List Nat) (ok:Bool) (er:Int) (t:Aa) (S5:Mi),l.length=32->(∀b∈l,b<256)->Cv t m S5 (Bf F h X)->Kf F h t->HB t->t.get (h.next+1)=some (.cells (Bj Dd) 49) ->
  Ok (stE 32 (.ptr (h.next+1) 0) (.agg (Bj l)) t fun h'=>It TT [.c (.ptr (h.next+1) 0) 49,.v (.bool ok),.v (I er)] h') fun v h'=>v=.tuple [.agg (Bj l),.bool ok,I er]/\l.length=32/\(∀b∈l,b<256)/\Cv h' m S5 F/\Kf F h h'/\HB h':=by
  intro l ok er t S5 hl bo M5 k5 H aa;have ul:(Bj l).length=32:=by rw[Bg,hl]
  have l8:=H _ _ aa;refine Ok.st (Bj l) aa rfl (by show Fz (Bj l)=32;rw[Bc,ul]) (Bk (by show(Bj Dd).length=(Bj l).length;rw[ul,Bg,Zz])) ?_;rw[Age (Ae _ _ _) Apf.1 Apf.2 ul];have nF:¬F (h.next+1):=fun y=>by have:=M.lt _ y;omega
  have c8:Ar (fun i=>i=h.next+1) t (t.put (h.next+1) (.cells (Bj l) 49)):=(Ar.refl (S:=fun i=>i=h.next+1) t).Aq (.inl rfl) l8 _;exact .ret ⟨rfl,hl,bo,(M5.Ahr c8 fun i P _=>P▸F8).less sub,k5.trans (c8.mono fun i P y=>nF (P▸y)),H.put l8 _⟩
 have no:∀(er:Int) (t:Aa) (S5:Mi),Cv t m S5 (Bf F h X)->Kf F h t->HB t->t.get (h.next+1)=some (.cells (Bj Dd) 49) ->
  Ok (Bq (Nb 1) (List.replicate 32 (EV.int .u8 0)) [] fun v=>stE 32 (.ptr (h.next+1) 0) v t fun h'=>It TT [.c (.ptr (h.next+1) 0) 49,.v (.bool false),.v (I er)] h') fun v h'=>v=.tuple [.agg (Bj Dd),.bool false,I er]/\Dd.length=32/\(∀b∈Dd,b<256)/\Cv h' m S5 F/\Kf F h h'/\HB h':=fun er t S5 M5 k5 H aa=>by
  rw[I6,Ax (l:=Bj Dd) rfl];exact fin Dd false er t S5 rfl (fun b hb=>by rw[bL hb];decide) M5 k5 H aa
 simp only[I,Ac];by_cases h0:er=0
 ·rw[aH h0]
  simp only[h0,aB,Ab,Yf];have bp:=o _ _ ao;have bt:=o _ _ C;obtain⟨_,D,p,bl,ql,np,q,c,G,a⟩:=M4.s;have bu:=o _ _ a.H9.H9
  try simp only[Au]
  rw[Jb bu,a.H9.table]
  try simp only[Ab,Au]
  rw[Jb bp,Cw ao rfl,Ak ul]
  try simp only[Ab,Au]
  rw[Jb bt,Al C rfl (v:=I x.off) rfl]
  try simp only[Ab,Au]
  refine Ok.bE (A5h (K:=K) J W (Dg o) hK Ah x.off) (fun _ _ p=>p.2.2) ?_;rintro _ dt t ⟨rfl,fw,_⟩ _ x5;have gw:=Bha J W x Ah Ay fw;have E:Asg s x Ah Ay=if(atF s Ah x.off).2=0/\¬(atF s Ah x.off).1.kind=2/\(atF s Ah x.off).1.seq=x.seq/\(T7 (atF s Ah x.off).1).2=0/\(T7 (atF s Ah x.off).1).1.Ay=Ay/\((E6 (T7 (atF s Ah x.off).1).1.bytes:Nat):Int)=x.sum
   then(true,(T7 (atF s Ah x.off).1).1.bytes)else(false,Dd):=rfl
  generalize Asg s x Ah Ay=gd at E gw⊢;generalize atF s Ah x.off=Ow at fw E⊢;obtain⟨f,bw⟩:=Ow;simp only at fw E⊢;have H:=x5.hb o;have fl:=Fr.Bm fw;have zl:=Fr.Bm Fr.Gs;simp only[Ab,Aq6,Au];rw[J6];refine Ok.st f.cells (Ad _ _) rfl (by show Fz f.cells=49;rw[Bc,fl]) (Bk (by rw[zl];exact fl.symm)) ?_;obtain⟨h6,e_,x6,ab,_⟩:=nP t (.cells Fr.zero.cells 167) (.cells f.cells 167);rw[e_];have T:=x6.hb H;have ad:Ext h4 h6:=x5.trans x6;have C:=ad.at o C;have B:=ad.at o B;have M6:=(M4.ext o ad).less fun i (P:Bf F h X i)=>Or.inl P
  have ax:Kf F h h6:=Z.trans ad.kf;have stop:=no 0 h6 _ M6 ax T B;have l0:f.cells[0]? = some (I f.kind):=rfl;have l4:f.cells[4]? = some (I f.seq):=rfl;simp only[I,Ac]at stop⊢;by_cases c1:bw=0
  ·by_cases c2:f.kind=2
   ·rw[aF (by rintro⟨_,y,_⟩;exact y c2)]at E;subst E
    simp only[c1,aC,aA,Ab,Cs ab rfl,l0,I,Ac,c2,aB,Ig,Ie];exact stop
   ·by_cases c3:f.seq=x.seq
    ·simp only[c1,aC,aA,Ab,Cs ab rfl,l0,I,Ac,c2,Ig,l4,Ie]
     rw[Al C rfl (v:=I x.seq) rfl];simp only[I,Ac,c3,aC,aA,Ab,Yh];rw[Cw ab rfl,Ak fl]
     try simp only[Ab]
     refine(Azz (K:=K) fw T hK).Ap ?_;rintro _ h7 ⟨rfl,L,x7⟩;generalize T7 f=re at L E⊢;obtain⟨e,bx⟩:=re;simp only at L E⊢;have bz:=x7.hb T;have el:=En.Bm L;have b5:=En.Bm En.Gs;simp only[Ab];rw[En.Hq];refine Ok.st e.cells (Ad _ _) rfl (by show Fz e.cells=38;rw[Bc,el]) (Bk (by rw[b5];exact el.symm)) ?_;obtain⟨h8,e_,x8,U,_⟩:=nP h7 (.cells En.zero.cells 131) (.cells e.cells 131);rw[e_];have u:=x8.hb bz;have ae:Ext h6 h8:=x7.trans x8;have C:=ae.at T C;have B:=ae.at T B;have M8:=(M6.ext T ae).less fun i (P:Bf F h X i)=>Or.inl P
     have az:Kf F h h8:=ax.trans ae.kf;have stop:=no 0 h8 _ M8 az u B;have b8:=u _ _ U;have ca:=u _ _ C;simp only[I,Ac]at stop⊢;by_cases c4:bx=0
     ·simp only[c4,aC,aA,Ab,Au]
      rw[Jb b8,Al U rfl (v:=I e.Ay) rfl];simp only[I,Ac];by_cases c5:e.Ay=Ay
      ·simp only[c5,aC,aA,Ii,Ab,Au]
       obtain⟨_,D,p,bl,ql,np,q,c,G,a⟩:=M8.s;have cc:=u _ _ a.H9.H9;rw[Jb cc,a.H9.table]
       try simp only[Ab,Au]
       rw[show ∀k:EV->R,Ps 32 1 (.ptr h7.next 6) none none none k=k (.slice h7.next 6 32 32 false)from fun k=>rfl]
       try simp only[Ab,Au]
       have bs:Bs h8.lift (.slice h7.next 6 32 32 false) h7.next 6 e.bytes:=by
        refine⟨32,false,_,e.cells,by rw[L.len],by rw[L.len];omega,by rw[By];exact U,rfl,by rw[el,L.len];exact aE _,?_⟩;unfold En.cells;rw[L.len];show(Bj e.bytes).take 32=_;rw[bQ (by rw[Bg,L.len];omega)]
       refine Ok.bE (A2m (K:=K) hK bs (Dg u) L.u8 (by rw[L.len];omega)) (fun _ _ p=>p.2) ?_;rintro _ dx h9 ⟨rfl,_⟩ _ x9;have a0:=x9.hb u;have C:=x9.at u C;have B:=x9.at u B;have U:=x9.at u U;have M9:=(M8.ext u x9).less fun i (P:Bf F h X i)=>Or.inl P
       have a1:Kf F h h9:=az.trans x9.kf;have stop:=no 0 h9 _ M9 a1 a0 B;have J:=A2j L.u8;simp only[Nk,Ab,Au];rw[show De .i64 (Int.ofNat (E6 e.bytes))=(E6 e.bytes:Int)from Cq (by show -9223372036854775808<=((E6 e.bytes:Nat):Int);omega) (by show((E6 e.bytes:Nat):Int)<=_;omega)];rw[Jb ca,Al C rfl (v:=I x.sum) rfl];simp only[I,Ac]at stop⊢;by_cases c6:((E6 e.bytes:Nat):Int)=x.sum
       ·rw[aH ⟨c1,c2,c3,c4,c5,c6⟩]at E;subst E
        simp only[c6,aC,aA,Gn,Ab,X3];rw[Cw U rfl,show Mo e.cells (0+6) 32=some (Bj e.bytes)from by
         rw[E7 (by rw[el];omega)];show some ((Bj e.bytes).take 32)=_;rw[bQ (by rw[Bg,L.len];omega)]]
        try simp only[Ab]
        exact fin e.bytes true 0 h9 _ L.len L.u8 M9 a1 a0 B
       ·rw[aF (by rintro⟨_,_,_,_,_,y⟩;exact c6 y)]at E;subst E
        simp only[c6,aN,aB,Gn,Ab];exact stop
      ·rw[aF (by rintro⟨_,_,_,_,y,_⟩;exact c5 y)]at E;subst E
       simp only[c5,aN,aB,Ii,Ab,Gn];exact stop
     ·rw[aF (by rintro⟨_,_,_,y,_⟩;exact c4 y)]at E;subst E
      simp only[c4,aN,aB,Ii,Ab,Gn];exact stop
    ·rw[aF (by rintro⟨_,_,y,_⟩;exact c3 y)]at E;subst E
     simp only[c1,aC,aA,Ab,Cs ab rfl,l0,I,Ac,c2,Ig,l4,Ie];rw[Al C rfl (v:=I x.seq) rfl];simp only[I,Ac,c3,aN,aB,Ab];exact stop
  ·rw[aF (by rintro⟨y,_⟩;exact c1 y)]at E;subst E
   simp only[c1,aN,aB,Ab,Ig,Ie];exact stop
 ·rw[aF h0]
  simp only[h0,aA,Ab,Ac];by_cases af:er=34
  ·rw[aH af]
   simp only[af,aB,Ab];exact no 34 h4 _ M4 Z o B
  ·rw[aF af]
   simp only[af,aA,Ab,Ac];by_cases ag:er=32
   ·rw[aH ag]
    simp only[ag,aB,Ab];rw[Ax (l:=Bj Dd) rfl];refine(Bgy A hK (by omega) M4 o hz).Ap ?_;rintro _ t ⟨rfl,M5,k5,H⟩;have B:=k5.at o B F8;have ch:Kf F h4 t:=k5.less sub;exact fin Dd false _ t _ rfl (fun b hb=>by rw[bL hb];decide) M5 (Z.trans ch) H B
   ·rw[aF ag]
    simp only[ag,aA,Ab];exact no 0 h4 _ M4 Z o B
section
def Amn(g:Gm)(x:Me):Bool:=decide (x.state=1)&&meB g x
theorem A0u(M:Cv h m S F)(hb:HB h)(o:Rng x.Ah)(hm:Rng x.Ay):
 Ok (Kr K (.ptr m 0) (.agg x.cells) h) fun v h'=>v=.bool (Amn S.g x)/\Ext h h':=by
 simp only[Kr,Ab];obtain⟨B,t,f,j,_⟩:=nW h (.cells x.cells 47);rw[t];have b:=f.hb hb;obtain⟨_,D,p,bl,ql,np,q,c,G,a⟩:=M.s.ext hb f;have k:=b _ _ j;have lm:=b _ _ a.H9.H9;rw[Jb k,Al j rfl (v:=I x.state) rfl];simp only[I,Ac];unfold Amn;by_cases h0:x.state=1
 ·simp only[h0,aB,Ab,Au,bA]
  rw[Jb k,Cw j rfl,Ak (n:=6) rfl]
  try simp only[Ab,Au]
  rw[Jb lm,a.H9.A8l]
  try simp only[Ab,Au]
  refine Ok.bE (Apu (K:=K) (Dg b) h0 o hm) (fun _ _ p=>p.2) ?_;rintro _ u h2 ⟨rfl,_⟩ _ y;simp only[K0,Ab];exact .ret ⟨rfl,f.trans y⟩
 ·simp only[h0,aA,Ab,Au,av,K0]
  exact .ret ⟨rfl,f⟩
section
variable (A:Bv disp)(hK:10000<K)(hd:20<=d){b3 b4:Nat}(M:Cv h m S F)(hb:HB h)(x:Me)
include A hK hd M hb
theorem A1o {ih:EV->EV->EV->EV->EV->Aa->R}{f:EV}{z:Int}(Z:Rng z)(G:∀k:EV->R,Awy 2 2 true 2 f (.int .i64 (i:Int)) k=k (.agg [I z,I mt]))(f3:F b3)(f4:F b4)
 (g3:h.get b3=some (.cells x.cells 47)) (B:h.get b4=some (.cells (Bj Dd) 49))
 (j:(S.Db x z mt).2.2.1=true\/¬(S.Db x z mt).2.2.2=0->∀h',Cv h' m (S.Db x z mt).1 F->Kf (fun i=>F i/\¬i=b4) h h'->HB h'->((S.Db x z mt).2.1.length=32/\∀b∈(S.Db x z mt).2.1,b<256)->Q (.tuple [.agg (Bj (S.Db x z mt).2.1),I (S.Db x z mt).2.2.2]) h')
 (o:¬((S.Db x z mt).2.2.1=true\/¬(S.Db x z mt).2.2.2=0)->∀h',Cv h' m (S.Db x z mt).1 F->Kf F h h'->HB h'->Ok (Lz (Ag TT disp K d false) (Ag TT disp K d true) K ih (.ptr m 0) (.ptr b3 0) (.ptr b4 0) f (.int .i64 (i:Int)) h') Q) :
 Ok (Ql (Ag TT disp K d false) (Ag TT disp K d true) K ih (.ptr m 0) (.ptr b3 0) (.ptr b4 0) f (.int .i64 (i:Int)) h) Q:=by
 simp only[Ql,G,Ab];refine Ok.st [I z,I mt] (Ad _ _) rfl rfl rfl ?_;obtain⟨h1,H,E,V,_⟩:=nP h (.cells [EV.int .i64 0,.int .i64 0] 52) (.cells [I z,I mt] 52);rw[H];have J:=E.hb hb;have M1:=M.ext hb E;have sub:∀i,F i->Bf F h h1 i:=fun i a=>.inl a
 rw[Cw (E.at hb g3) rfl,Ak (n:=6) rfl]
 try simp only[Ab]
 rw[show ∀k:EV->R,Auo 2 1 (.ptr h.next 0) (.int .i64 0) k=k (.ptr h.next 0)from fun k=>rfl,Al V rfl (v:=I z) rfl];rw[show ∀k:EV->R,Auo 2 1 (.ptr h.next 0) (.int .i64 1) k=k (.ptr h.next 1)from fun k=>rfl,Al V rfl (v:=I mt) rfl];refine(A5i A hK hd M1 J x Z mt).Ap ?_;rintro _ h2 ⟨rfl,bl,L,M2,k2,u⟩;have O:Kf F h h2:=E.Ar5 k2;generalize S.Db x z mt=C at j o bl L M2⊢;obtain⟨T,l,ok,er⟩:=C;simp only at j o bl L M2⊢;have ul:(Bj l).length=32:=by rw[Bg,bl]
 simp only[Ab,I6];refine Ok.st (Bj l) (Ad _ _) rfl (by show Fz (Bj l)=32;rw[Bc,ul]) (Bk (by show(Bj Dd).length=(Bj l).length;rw[ul,Bg,Zz])) ?_;obtain⟨p,H,P,g8,_⟩:=nP h2 (.cells (Bj Dd) 49) (.cells (Bj l) 49);rw[H];have q:=P.hb u;have W:=(M2.ext u P).less fun i (a:F i)=>Or.inl (sub i a)
 have t:Kf F h p:=O.trans P.kf;have B:=t.at hb B f4;have X:=q _ _ B;have stop:(ok=true\/¬er=0)->Ok (Ox 32 (.ptr h2.next 0) p fun U=>stE 32 (.ptr b4 0) U p fun h=>It TT [.c (.ptr b4 0) 49,.v (I er)] h) Q:=fun hc=>by
  rw[Cw g8 rfl,Ak ul]
  try simp only[Ab]
  refine Ok.st (Bj l) B rfl (by show Fz (Bj l)=32;rw[Bc,ul]) (Bk (by show(Bj Dd).length=(Bj l).length;rw[ul,Bg,Zz])) ?_;rw[Ff (Ae _ _ _) Apf.1 Apf.2 ul];have Y:Ar (fun i=>i=b4) p (p.put b4 (.cells (Bj l) 49)):=(Ar.refl (S:=fun i=>i=b4) p).Aq (.inl rfl) X _;exact .ret (j hc _ (W.Ahr Y fun i a _=>a▸f4) ((t.less fun i a=>a.1).trans (Y.mono fun i a y=>y.2 a)) (q.put X _) ⟨bl,L⟩)
 simp only[I,Ac]at stop⊢;cases ok with
 | true=>
  simp only[Ab,Ac,Qk];exact stop (.inl rfl)
 | false=>
  simp only[Ab,Ac,Qk];by_cases h0:er=0
  ·simp only[h0,aC,aA,Ab]
   exact o (by rw[h0];simp) p W t q
  ·simp only[h0,aN,aB,Ab]
   exact stop (.inr h0)
end
noncomputable def Mi.read(S:Mi)(x:Me):Mi × List Nat × Int:=
 if Amn S.g x=false then(S,Dd,10)else
 if(S.Db x x.Ah x.Ay).2.2.1=true\/¬(S.Db x x.Ah x.Ay).2.2.2=0 then((S.Db x x.Ah x.Ay).1,(S.Db x x.Ah x.Ay).2.1,(S.Db x x.Ah x.Ay).2.2.2)else
 if((S.Db x x.Ah x.Ay).1.Db x x.Ay x.Ah).2.2.1=true\/¬((S.Db x x.Ah x.Ay).1.Db x x.Ay x.Ah).2.2.2=0 then(((S.Db x x.Ah x.Ay).1.Db x x.Ay x.Ah).1,((S.Db x x.Ah x.Ay).1.Db x x.Ay x.Ah).2.1,((S.Db x x.Ah x.Ay).1.Db x x.Ay x.Ah).2.2.2)else
 (((S.Db x x.Ah x.Ay).1.Db x x.Ay x.Ah).1,Dd,41)
theorem Bg0(A:Bv disp)(hK:10000<K)(hd:21<=d)(M:Cv h m S F)(hb:HB h)(V:Rng x.Ah)(hm:Rng x.Ay):
 Ok (Ag TT disp K d false 112 [.ptr m 0,.agg x.cells] h) fun v h'=>v=.tuple [.agg (Bj (S.read x).2.1),I (S.read x).2.2]/\((S.read x).2.1.length=32/\∀b∈(S.read x).2.1,b<256)/\Cv h' m (S.read x).1 F/\Kf F h h'/\HB h':=by
 obtain⟨dd,rfl⟩:∃k,d=k+1:=⟨d-1,by omega⟩;rw[Aj3 A (by omega)];simp only[Adk,Ab];rw[show(h.new (.cells x.cells 47)).next=h.next+1 from rfl,I6];have J:Ext h ((h.new (.cells x.cells 47)).new (.cells (Bj Dd) 49)):=(Ar.new _ _).Df _;have j:((h.new (.cells x.cells 47)).new (.cells (Bj Dd) 49)).get h.next=some (.cells x.cells 47):=by
  rw[Aw _ (aL _)];exact Ad _ _
 have p:((h.new (.cells x.cells 47)).new (.cells (Bj Dd) 49)).get (h.next+1)=some (.cells (Bj Dd) 49):=Ad _ _;have Y:((h.new (.cells x.cells 47)).new (.cells (Bj Dd) 49)).next=h.next+2:=rfl
 generalize (h.new (.cells x.cells 47)).new (.cells (Bj Dd) 49)=h1 at J j p Y⊢;have q:=J.hb hb;have Z:=M.ext hb J;rw[Cw j rfl,Ak (n:=6) rfl]
 try simp only[Ab]
 refine(A0u (K:=K) Z q V hm).Ap ?_;rintro _ h2 ⟨rfl,E⟩;have f:=E.hb q;have G:Ext h h2:=J.trans E;have M2:=M.ext hb G;have j:=E.at q j;have p:=E.at q p;have ln:=E.next
 have f3:Bf F h h2 h.next:=.inr ⟨aE _,by omega⟩
 have f4:Bf F h h2 (h.next+1):=.inr ⟨by omega,by omega⟩;have sub:∀i,F i->Bf F h h2 i:=fun i t=>.inl t
 have back:∀h',Kf (fun i=>Bf F h h2 i/\¬i=h.next+1) h2 h'->Kf F h h':=fun h' k=>
  Ar.then (S:=fun i=>¬F i) (Ext.to G) k fun i y hl z=>y ⟨.inl z,fun y=>by have:=M.lt i z;omega⟩
 have fin:∀(o:Aa) (T:Mi) (er:Int),Cv o m T (Bf F h h2)->Kf (Bf F h h2) h2 o->HB o ->
  Ok (Bq (Nb 1) (Bj Dd) [] fun v=>stE 32 (.ptr (h.next+1) 0) v o fun h'=>It TT [.c (.ptr (h.next+1) 0) 49,.v (I er)] h') fun v h'=>v=.tuple [.agg (Bj Dd),I er]/\(Dd.length=32/\∀b∈Dd,b<256)/\Cv h' m T F/\Kf F h h'/\HB h':=by
  intro o T er H u a;have p:=u.at f p f4;have W:=a _ _ p;rw[Ax (l:=Bj Dd) rfl];refine Ok.st (Bj Dd) p rfl rfl (Bk rfl) ?_;rw[Ff (Ae _ _ _) Apf.1 Apf.2 rfl];have X:Ar (fun i=>i=h.next+1) o (o.put (h.next+1) (.cells (Bj Dd) 49)):=(Ar.refl (S:=fun i=>i=h.next+1) o).Aq (.inl rfl) W _;exact .ret ⟨rfl,⟨rfl,fun b hb=>by rw[bL hb];decide⟩,(H.Ahr X fun i t _=>t▸f4).less sub,back _ ((u.less fun i t=>t.1).trans (X.mono fun i t y=>y.2 t)),a.put W _⟩
 unfold Mi.read;cases hl:Amn S.g x with
 | false=>
  simp only[Ab,bI];exact fin h2 S 10 M2 (Ar.refl _) f
 | true=>
  rw[aF (by simp)];simp only[Ab,X1];rw[Al j rfl (v:=I x.Ah) rfl]
  try simp only[Ab]
  rw[Al j rfl (v:=I x.Ay) rfl,Ax (l:=[I x.Ah,I x.Ay]) rfl]
  try simp only[Ab]
  rw[Al j rfl (v:=I x.Ay) rfl]
  try simp only[Ab]
  rw[Al j rfl (v:=I x.Ah) rfl,Ax (l:=[I x.Ay,I x.Ah]) rfl,Ax (l:=[I x.Ah,I x.Ay,I x.Ay,I x.Ah]) rfl];obtain⟨k,rfl⟩:∃k,K=k+3:=⟨K-3,by omega⟩;rw[show C8 (Ag TT disp (k+3) dd false) (Ag TT disp (k+3) dd true) (k+3) (k+3)=C8 (Ag TT disp (k+3) dd false) (Ag TT disp (k+3) dd true) (k+3) (k+2+1)from rfl];rw[C8];simp only[Ac,show decide ((0:Int)<2)=true from rfl,Ab];refine A1o A hK (by omega) M2 f x (i:=0) V (fun k=>rfl) f3 f4 j p ?_ ?_
  ·intro B o H u a bl
   rw[aH B];exact⟨rfl,bl,H.less sub,back _ u,a⟩
  ·intro B o H u a
   rw[aF B];simp only[Lz,Ac];rw[show De .i64 (((0:Nat):Int)+1)=((1:Nat):Int)from rfl];rw[show C8 (Ag TT disp (k+3) dd false) (Ag TT disp (k+3) dd true) (k+3) (k+2)=C8 (Ag TT disp (k+3) dd false) (Ag TT disp (k+3) dd true) (k+3) (k+1+1)from rfl];rw[C8];simp only[Ac,show decide (((1:Nat):Int)<2)=true from rfl,Ab];have L:=u.at f j f3;have O:=u.at f p f4;refine A1o A hK (by omega) H a x (i:=1) hm (fun k=>rfl) f3 f4 L O ?_ ?_
   ·intro B h4 P U C bl
    rw[aH B];exact⟨rfl,bl,P.less sub,back _ ((u.less fun i t=>t.1).trans U),C⟩
   ·intro B h4 P U C
    rw[aF B];simp only[Lz,Ac];rw[show De .i64 (((1:Nat):Int)+1)=((2:Nat):Int)from rfl];rw[C8];simp only[Ac,show decide (((2:Nat):Int)<2)=false from rfl,Ab,X8,I6];exact fin h4 _ 41 P (u.trans U) C
section
variable (A:Bv disp)(hK:10000<K)(hd:20<=d){b3 b4 b7:Nat}(M:Cv h m S F)(hb:HB h)(x:Me)
include A hK hd M hb
theorem Axi{v30:EV}{z:Int}{l0:List Nat}{n gd:Nat}(hn:n<=10)(ax:gd<=10)(B:l0.length=32)(hz:Rng z)(Y:∀k:EV->R,Awy 2 2 true 2 v30 (.int .i64 (i:Int)) k=k (.agg [I z,I mt]))(f3:F b3)(f4:F b4)(f7:F b7)(ay:b4≠b7)
 (g3:h.get b3=some (.cells x.cells 47)) (P:h.get b4=some (.cells (Bj Dd) 49)) (E:h.get b7=some (.cells (Bj l0) 49))
 (t:¬(S.Db x z mt).2.2.2=0->∀h',Cv h' m (S.Db x z mt).1 F->Kf (fun i=>F i/\¬i=b4/\¬i=b7) h h'->HB h'->Q (.tuple [.agg (Bj Dd),I 0,I (S.Db x z mt).2.2.2]) h')
 (f:(S.Db x z mt).2.2.2=0->∀h',Cv h' m (S.Db x z mt).1 F->Kf (fun i=>F i/\¬i=b7) h h'->HB h'->(if(S.Db x z mt).2.2.1=true then(S.Db x z mt).2.1 else l0).length=32 ->
  h'.get b7=some (.cells (Bj (if(S.Db x z mt).2.2.1=true then(S.Db x z mt).2.1 else l0)) 49) ->
  Ok (Hs (Ag TT disp K d false) (Ag TT disp K d true) K ih (.ptr m 0) (.ptr b3 0) (.ptr b4 0) (.ptr b7 0) (I ((if(S.Db x z mt).2.2.1=true/\(S.Db x z mt).1.Ex z=false then n+1 else n:Nat):Int)) (I ((if(S.Db x z mt).2.2.1=true then gd+1 else gd:Nat):Int)) v30 (.int .i64 (i:Int)) h') Q) :
 Ok (O8 (Ag TT disp K d false) (Ag TT disp K d true) K ih (.ptr m 0) (.ptr b3 0) (.ptr b4 0) (.ptr b7 0) (I (n:Int)) (I (gd:Int)) v30 (.int .i64 (i:Int)) h) Q:=by
 simp only[O8,Y,Ab];refine Ok.st [I z,I mt] (Ad _ _) rfl rfl rfl ?_;obtain⟨U,Z,V,a,n1⟩:=nP h (.cells [EV.int .i64 0,.int .i64 0] 52) (.cells [I z,I mt] 52);rw[Z];have G:=V.hb hb;have M1:=M.ext hb V;have aa:Bf F h U h.next:=.inr ⟨aE _,by omega⟩
 have sub:∀i,F i->Bf F h U i:=fun i b=>.inl b
 rw[Cw (V.at hb g3) rfl,Ak (n:=6) rfl]
 try simp only[Ab]
 rw[show ∀k:EV->R,Auo 2 1 (.ptr h.next 0) (.int .i64 0) k=k (.ptr h.next 0)from fun k=>rfl,Al a rfl (v:=I z) rfl];rw[show ∀k:EV->R,Auo 2 1 (.ptr h.next 0) (.int .i64 1) k=k (.ptr h.next 1)from fun k=>rfl,Al a rfl (v:=I mt) rfl];refine(A5i A hK hd M1 G x hz mt).Ap ?_;rintro _ h2 ⟨rfl,bl,bu,M2,k2,u⟩;have ab:Kf F h h2:=V.Ar5 k2;have a:=k2.at G a aa;generalize S.Db x z mt=C at t f bl bu M2⊢;obtain⟨T,l,ok,er⟩:=C;simp only at t f bl bu M2⊢;have ul:(Bj l).length=32:=by rw[Bg,bl]
 have ad:(Bj l0).length=32:=by rw[Bg,B]
 simp only[Ab,I6];refine Ok.st (Bj l) (Ad _ _) rfl (by show Fz (Bj l)=32;rw[Bc,ul]) (Bk (by show(Bj Dd).length=(Bj l).length;rw[ul,Bg,Zz])) ?_;obtain⟨j,Z,W,ae,_⟩:=nP h2 (.cells (Bj Dd) 49) (.cells (Bj l) 49);rw[Z];have o:=W.hb u;have a:=W.at u a;have H:=(M2.ext u W).less fun i (b:Bf F h U i)=>Or.inl b
 have M3:=H.less sub;have p:Kf F h j:=ab.trans W.kf;have P:=p.at hb P f4;have E:=p.at hb E f7;have l4:=o _ _ P;have l7:=o _ _ E;simp only[I,Ac];by_cases h0:er=0
 ·simp only[h0,aC,aA,Ab,Vz]
  have f:=f h0;cases ok with
  | false=>
   simp only[Ab];have:=f j M3 (p.less fun i b=>b.1) o (by simp[B]) (by simpa using E);simpa [I]using this
  | true=>
   simp only[Ab,Xt];rw[Cw ae rfl,Ak ul]
   try simp only[Ab]
   refine Ok.st (Bj l) E rfl (by show Fz (Bj l)=32;rw[Bc,ul]) (Bk (by show(Bj l0).length=(Bj l).length;rw[ul,ad])) ?_;have c7:Ar (fun i=>i=b7) j (j.put b7 (.cells (Bj l) 49)):=(Ar.refl (S:=fun i=>i=b7) j).Aq (.inl rfl) l7 _;have M4:=H.Ahr c7 fun i b _=>by
    have b:i=b7:=b;subst b;exact sub _ f7
   have J:(j.put b7 (.cells (Bj l) 49)).get b7=some (.cells (Bj l) 49):=Ae _ _ _;have a:(j.put b7 (.cells (Bj l) 49)).get h.next=some (.cells [I z,I mt] 52):=by
    rw[Af _ (fun y=>by have:=M.lt _ f7;omega)];exact a
   have L:Kf (fun i=>F i/\¬i=b7) h (j.put b7 (.cells (Bj l) 49)):=(p.less fun i b=>b.1).trans (c7.mono fun i b y=>y.2 b);have q:HB (j.put b7 (.cells (Bj l) 49)):=o.put l7 _;generalize j.put b7 (.cells (Bj l) 49)=h4 at M4 J a L q⊢;simp only[I,Ac];rw[Cq (n:=(gd:Int)+1) (by omega) (by omega),Cq (n:=(n:Int)+1) (by omega) (by omega)];rw[show ∀k:EV->R,Auo 2 1 (.ptr h.next 0) (.int .i64 0) k=k (.ptr h.next 0)from fun k=>rfl,Al a rfl (v:=I z) rfl];refine(No (K:=K) M4.s q hz).Ap ?_;rintro _ h5 ⟨rfl,X⟩;have ag:=X.hb q;have M5:=(M4.ext q X).less fun i (b:Bf F h U i)=>Or.inl b
   have this:=f h5 (M5.less sub) (L.trans X.kf) ag (by simpa using bl) (by simpa using X.at q J);cases O:T.Ex z with
   | true=>
    simp only[Ab];simpa [I,O]using this
   | false=>
    simp only[Ab,Ac];simpa [I,O]using this
 ·simp only[h0,aN,aB,Ab]
  rw[Ax (l:=Bj Dd) rfl];refine Ok.st (Bj Dd) P rfl rfl (Bk rfl) ?_;rw[Age (Ae _ _ _) Apf.1 Apf.2 rfl];have c8:Ar (fun i=>i=b4) j (j.put b4 (.cells (Bj Dd) 49)):=(Ar.refl (S:=fun i=>i=b4) j).Aq (.inl rfl) l4 _;exact .ret (t h0 _ (M3.Ahr c8 fun i b _=>b▸f4) ((p.less fun i b=>b.1).trans (c8.mono fun i b y=>y.2.1 b)) (o.put l4 _))
end
noncomputable def Mi.Azf(x:Me)(C D:Mi × List Nat × Bool × Int):Mi × List Nat × Int × Int:=
 if ¬D.2.2.2=0 then(D.1,Dd,0,D.2.2.2)else
 if C.2.2.1=false/\D.2.2.1=false then(D.1,Dd,0,41)else
 (D.1,if D.2.2.1=true then D.2.1 else C.2.1,(if C.2.2.1=true/\C.1.Ex x.Ah=false then 1 else 0)+(if D.2.2.1=true/\D.1.Ex x.Ay=false then 1 else 0),0)
noncomputable def Mi.check(S:Mi)(x:Me):Mi × List Nat × Int × Int:=
 if Amn S.g x=false then(S,Dd,0,10)else
 if ¬(S.Db x x.Ah x.Ay).2.2.2=0 then((S.Db x x.Ah x.Ay).1,Dd,0,(S.Db x x.Ah x.Ay).2.2.2)else
 Mi.Azf x (S.Db x x.Ah x.Ay) ((S.Db x x.Ah x.Ay).1.Db x x.Ay x.Ah)
theorem Bfl(A:Bv disp)(hK:10000<K)(hd:21<=d)(M:Cv h m S F)(hb:HB h)(hz:Rng x.Ah)(hm:Rng x.Ay):
 Ok (Ag TT disp K d false 18 [.ptr m 0,.agg x.cells] h) fun v h'=>v=.tuple [.agg (Bj (S.check x).2.1),I (S.check x).2.2.1,I (S.check x).2.2.2]/\(S.check x).2.1.length=32/\Cv h' m (S.check x).1 F/\Kf F h h'/\HB h':=by
 obtain⟨dd,rfl⟩:∃k,d=k+1:=⟨d-1,by omega⟩;rw[Aiy A (by omega)];simp only[Aby,Ab];rw[show(h.new (.cells x.cells 47)).next=h.next+1 from rfl,I6];have x1:Ext h ((h.new (.cells x.cells 47)).new (.cells (Bj Dd) 49)):=(Ar.new _ _).Df _;have j:((h.new (.cells x.cells 47)).new (.cells (Bj Dd) 49)).get h.next=some (.cells x.cells 47):=by
  rw[Aw _ (aL _)];exact Ad _ _
 have t:((h.new (.cells x.cells 47)).new (.cells (Bj Dd) 49)).get (h.next+1)=some (.cells (Bj Dd) 49):=Ad _ _;have n1:((h.new (.cells x.cells 47)).new (.cells (Bj Dd) 49)).next=h.next+2:=rfl
 generalize (h.new (.cells x.cells 47)).new (.cells (Bj Dd) 49)=h1 at x1 j t n1⊢;have u:=x1.hb hb;have M1:=M.ext hb x1;rw[Cw j rfl,Ak (n:=6) rfl]
 try simp only[Ab]
 refine(A0u (K:=K) M1 u hz hm).Ap ?_;rintro _ h2 ⟨rfl,V⟩;have o:=V.hb u;have J:Ext h h2:=x1.trans V;have M2:=M.ext hb J;have j:=V.at u j;have t:=V.at u t;have ln:=V.next
 have az:Bf F h h2 (h.next+1):=.inr ⟨by omega,by omega⟩;have l4:=o _ _ t;unfold Mi.check;cases hl:Amn S.g x with
 | false=>
  simp only[Ab,bI];rw[Ax (l:=Bj Dd) rfl];refine Ok.st (Bj Dd) t rfl rfl (Bk rfl) ?_;rw[Age (Ae _ _ _) Apf.1 Apf.2 rfl];have L:Ext h (h2.put (h.next+1) (.cells (Bj Dd) 49)):=J.Aq (.inr (by omega)) l4 _;exact .ret ⟨rfl,rfl,(M.ext hb L).less fun i (f:F i)=>Or.inl f,L.kf,o.put l4 _⟩
 | true=>
  rw[aF (by simp)];simp only[Ab,Xs,I6];obtain⟨B,e_,L,g7,n3⟩:=nW h2 (.cells (Bj Dd) 49);rw[e_];have O:=L.hb o;have W:Ext h B:=J.trans L;have M3:=M.ext hb W;have j:=L.at o j;have t:=L.at o t;have f3:Bf F h B h.next:=.inr ⟨aE _,by omega⟩
  have f4:Bf F h B (h.next+1):=.inr ⟨by omega,by omega⟩;have f7:Bf F h B h2.next:=.inr ⟨by omega,by omega⟩
  have E:h.next+1≠h2.next:=by omega
  have sub:∀i,F i->Bf F h B i:=fun i f=>.inl f
  have back:∀h',Kf (fun i=>Bf F h B i/\¬i=h.next+1/\¬i=h2.next) B h'->Kf F h h':=fun h' k=>
   Ar.then (S:=fun i=>¬F i) (Ext.to W) k fun i y hl z=>y ⟨.inl z,fun y=>by have:=M.lt i z;omega,fun y=>by have:=M.lt i z;omega⟩
  rw[Al j rfl (v:=I x.Ah) rfl]
  try simp only[Ab]
  rw[Al j rfl (v:=I x.Ay) rfl,Ax (l:=[I x.Ah,I x.Ay]) rfl]
  try simp only[Ab]
  rw[Al j rfl (v:=I x.Ay) rfl]
  try simp only[Ab]
  rw[Al j rfl (v:=I x.Ah) rfl,Ax (l:=[I x.Ay,I x.Ah]) rfl,Ax (l:=[I x.Ah,I x.Ay,I x.Ay,I x.Ah]) rfl];obtain⟨k,rfl⟩:∃k,K=k+3:=⟨K-3,by omega⟩;rw[show Cx (Ag TT disp (k+3) dd false) (Ag TT disp (k+3) dd true) (k+3) (k+3)=Cx (Ag TT disp (k+3) dd false) (Ag TT disp (k+3) dd true) (k+3) (k+2+1)from rfl];rw[Cx];simp only[Ac,show decide ((0:Int)<2)=true from rfl,Ab];refine Axi A hK (by omega) M3 O x (i:=0) (n:=0) (gd:=0) (l0:=Dd) (by omega) (by omega) rfl hz (fun k=>rfl) f3 f4 f7 E j t g7 ?_ ?_
  ·intro P h4 M4 T G
   rw[aH P];exact⟨rfl,rfl,M4.less sub,back _ T,G⟩
  ·intro P h4 M4 T G p X
   rw[aF (show ¬¬(S.Db x x.Ah x.Ay).2.2.2=0 from fun y=>y P)];have ah:=T.at O j ⟨f3,by omega⟩;have Y:=T.at O t ⟨f4,E⟩;generalize S.Db x x.Ah x.Ay=C at M4 p X⊢;simp only[Hs,Ac];rw[show De .i64 (((0:Nat):Int)+1)=((1:Nat):Int)from rfl];rw[show Cx (Ag TT disp (k+3) dd false) (Ag TT disp (k+3) dd true) (k+3) (k+2)=Cx (Ag TT disp (k+3) dd false) (Ag TT disp (k+3) dd true) (k+3) (k+1+1)from rfl];rw[Cx];simp only[Ac,show decide (((1:Nat):Int)<2)=true from rfl,Ab];have ai:(if C.2.2.1=true/\C.1.Ex x.Ah=false then 0+1 else 0)<=10:=by split<;>omega
   have aj:(if C.2.2.1=true then 0+1 else 0)<=10:=by split<;>omega
   refine Axi A hK (by omega) M4 G x (i:=1) ai aj p hm (fun k=>rfl) f3 f4 f7 E ah Y X ?_ ?_
   ·intro P U M5 k5 H
    unfold Mi.Azf;rw[aH P];exact⟨rfl,rfl,M5.less sub,back _ ((T.less fun i f=>⟨f.1,f.2.2⟩).trans k5),H⟩
   ·intro P U M5 k5 H a b
    unfold Mi.Azf;rw[aF (show ¬¬(C.1.Db x x.Ay x.Ah).2.2.2=0 from fun y=>y P)];have Z:=k5.at G Y ⟨f4,E⟩;have aa:=H _ _ Z;generalize C.1.Db x x.Ay x.Ah=D at M5 a b⊢;simp only[Hs,Ac];rw[show De .i64 (((1:Nat):Int)+1)=((2:Nat):Int)from rfl];rw[Cx];simp only[Ac,show decide (((2:Nat):Int)<2)=false from rfl,Ab,Xd,I];have al:Kf (fun i=>Bf F h B i/\¬i=h.next+1/\¬i=h2.next) B U:=(T.less fun i f=>⟨f.1,f.2.2⟩).trans (k5.less fun i f=>⟨f.1,f.2.2⟩);have fin:∀(l:List Nat) (n er:Int),l.length=32->Ok (stE 32 (.ptr (h.next+1) 0) (.agg (Bj l)) U fun h'=>It TT [.c (.ptr (h.next+1) 0) 49,.v (I n),.v (I er)] h') fun v h'=>v=.tuple [.agg (Bj l),I n,I er]/\l.length=32/\Cv h' m D.1 F/\Kf F h h'/\HB h':=by
     intro l n er hl;have ul:(Bj l).length=32:=by rw[Bg,hl]
     refine Ok.st (Bj l) Z rfl (by show Fz (Bj l)=32;rw[Bc,ul]) (Bk (by show(Bj Dd).length=(Bj l).length;rw[ul,Bg,Zz])) ?_;rw[Age (Ae _ _ _) Apf.1 Apf.2 ul];have c8:Ar (fun i=>i=h.next+1) U (U.put (h.next+1) (.cells (Bj l) 49)):=(Ar.refl (S:=fun i=>i=h.next+1) U).Aq (.inl rfl) aa _;exact .ret ⟨rfl,hl,(M5.Ahr c8 fun i f _=>f▸f4).less sub,back _ (al.trans (c8.mono fun i f y=>y.2.1 f)),H.put aa _⟩
    cases c1:C.2.2.1 with
    | false=>
     rw[c1]at a b;cases c2:D.2.2.1 with
     | false=>
      simp only[aX,gF,ak,and_self,bI,show((0:Nat):Int)=0 from rfl,aB,Ab,I6];rw[Ax (l:=Bj Dd) rfl];exact fin Dd 0 41 rfl
     | true=>
      rw[c2]at a b;simp only[bI]at a b;simp only[aX,gF,ak,fC,and_false,gG,bI,Ab,K5,show decide (((0+1:Nat):Int)=0)=false from rfl];rw[Cw b rfl,Ak (by rw[Bg,a])];simp only[Ab];have:=fin D.2.1 ((if D.1.Ex x.Ay=false then 0+1 else 0:Nat):Int) 0 a;simp only[I]at this;cases q:D.1.Ex x.Ay<;>simpa [q]using this
    | true=>
     rw[c1]at p a b;simp only[bI]at p;cases c2:D.2.2.1 with
     | false=>
      rw[c2]at a b;simp only[bI,aX,ak]at a b;simp only[fC,gF,ak,gG,bI,aX,Ab,K5,show decide (((0+1:Nat):Int)=0)=false from rfl];rw[Cw b rfl,Ak (by rw[Bg,a])];simp only[Ab];have:=fin C.2.1 ((if C.1.Ex x.Ah=false then 0+1 else 0:Nat):Int) 0 p;simp only[I]at this;cases q:C.1.Ex x.Ah<;>simpa [q]using this
     | true=>
      rw[c2]at a b;simp only[bI]at a b;simp only[fC,gF,ak,gG,bI,Ab,K5,show decide (((0+1+1:Nat):Int)=0)=false from rfl];rw[Cw b rfl,Ak (by rw[Bg,a])];simp only[Ab];have:=fin D.2.1 (((if C.1.Ex x.Ah=false then 1 else 0)+(if D.1.Ex x.Ay=false then 1 else 0):Nat):Int) 0 a;simp only[I]at this;cases ao:C.1.Ex x.Ah<;>cases q:D.1.Ex x.Ay<;>simpa [ao,q]using this
end
noncomputable def Jp.new(n size:Nat)(op:Int):Jp:=⟨⟨n,size,op,0,false,fun _=>Zn.empty⟩,[],[]⟩
noncomputable def Mi.new(g:Gm):Mi:=⟨g,Jp.new (g.D*g.Z).toNat g.S.toNat g.O,fun _=>[],fun _=>0,-1,-1,0⟩
theorem Blr(s:Sm g){h0:Aa}(hb:HB h){D V M zl p bl ql:Nat}{z q c:Nat->Nat}(d:Ag9 h D V M zl (g.D*g.Z).toNat z (fun _=>0) g.S g.O 0 false .Ao .Ao [] (fun _=>Zn.empty))
 (nd:(h0.next<=D/\h0.next<=M)/\h0.next<=V/\h0.next<=zl/\∀d,d<(g.D*g.Z).toNat->h0.next<=z d) (E:Aav h m D p bl (g.D*g.Z).toNat g (-1) (-1) 0 (fun _=>0)) (v:Et h p ql g.D.toNat q c g (fun _=>[]))
 (nm:(h0.next<=m/\h0.next<=bl)/\h0.next<=p/\h0.next<=ql/\∀d,d<g.D.toNat->h0.next<=q d/\h0.next<=c d) (le:h0.next<=h.next):Cv h m (Mi.new g) (fun i=>i<h0.next):=by
 have:=s.d0;have:=s.d1;have:=s.z0;have:=s.z1;have:=s.s0;have:=s.s1;obtain⟨X,m1⟩:=Qi (a:=g.D) (b:=g.Z) (A:=8) (B:=64) (by omega) (by omega) (by omega) (by omega);have j:=d.dev;have u:∀i,i<(g.D*g.Z).toNat->∃s,h.get (z i)=some (.cells [s,I g.S,I 0,I 0,.bool false] 202):=fun i f=>by
  obtain⟨s,a,_⟩:=(j.Ah i f).Ah;exact⟨s,a⟩
 have P:∀i,A0j V zl (g.D*g.Z).toNat z (fun _=>0) (fun _=>Zn.empty) i->i=V\/i=zl\/∃d,d<(g.D*g.Z).toNat/\i=z d:=fun i f=>by
  rcases f with y|y|⟨d,hd,y|y⟩
  ·exact .inl y
  ·exact .inr (.inl y)
  ·exact .inr (.inr ⟨d,hd,y⟩)
  ·exact absurd rfl y.1
 have kind:∀i o,h.get i=some o->(∀l,o≠.cells l 183)->(∀l,o≠.vec l 184 1)->(∀l,o≠.cells l 202)->¬A0j V zl (g.D*g.Z).toNat z (fun _=>0) (fun _=>Zn.empty) i:=fun i o t H h2 J f=>by
  rcases P i f with y|y|⟨d,hd,y⟩
  ·subst y;rw[j.dev]at t;cases t;exact H _ rfl
  ·subst y;rw[j.row]at t;cases t;exact h2 _ rfl
  ·subst y
   obtain⟨s,hs⟩:=u d hd;rw[hs]at t;cases t;exact J _ rfl
 have C:∀i o,h.get i=some o->(∀l,o≠.cells l 183)->(∀l,o≠.vec l 184 1)->(∀l,o≠.cells l 202)->(∀l,o≠.cells l 143)->(∀l,o≠.map l)->¬(i=D\/i=M\/A0j V zl (g.D*g.Z).toNat z (fun _=>0) (fun _=>Zn.empty) i):=fun i o t H h2 J h4 T f=>by
  rcases f with y|y|y
  ·subst y;rw[d.Dr]at t;cases t;exact h4 _ rfl
  ·subst y;rw[d.marks]at t;cases t;exact T _ rfl
  ·exact kind i o t H h2 J y
 have n:∀i,A0j V zl (g.D*g.Z).toNat z (fun _=>0) (fun _=>Zn.empty) i->i<h.next/\h0.next<=i:=fun i f=>by
  rcases P i f with y|y|⟨d,hd,y⟩
  ·subst y;exact⟨hb _ _ j.dev,nd.2.1⟩
  ·subst y;exact⟨hb _ _ j.row,nd.2.2.1⟩
  ·subst y
   obtain⟨s,hs⟩:=u d hd;exact⟨hb _ _ hs,nd.2.2.2 d hd⟩
 have hS:g.S=((g.S.toNat:Nat):Int):=by omega
 have G:F0 h D (Jp.new (g.D*g.Z).toNat g.S.toNat g.O) (fun i=>i=D\/i=M\/A0j V zl (g.D*g.Z).toNat z (fun _=>0) (fun _=>Zn.empty) i):=by
  have U:∀size:Nat,0<size->Zn.empty.Wf size:=fun size hs=>⟨fun x L=>(by cases L),by show 0<=4;omega,aE _,cQ _,fun _=>hs⟩
  have W:Dv.Wf ⟨(g.D*g.Z).toNat,g.S.toNat,g.O,0,false,fun _=>Zn.empty⟩:=⟨by show g.S.toNat<=64;omega,by show(g.D*g.Z).toNat<=512;omega,fun i _=>U _ (by show 0<g.S.toNat;omega)⟩;refine⟨fun i f=>?_,⟨by show 0+0<=200;omega,fun e he=>(by cases he),fun e he=>(by cases he)⟩,V,M,0,0,.Ao,.Ao,[],_,d.Dr,d.marks,fun e he=>(by cases he),.nil _ _ _ _,.nil _ _ _ _,⟨W,fun i f=>(n i f).1,zl,z,fun _=>0,?_,fun i f=>f⟩,⟨fun i f=>.inr (.inr f),.inl rfl,.inr (.inl rfl),fun y=>absurd y (bO _),fun y=>absurd y (bO _)⟩,⟨kind _ _ d.Dr (by intros;simp) (by intros;simp) (by intros;simp),kind _ _ d.marks (by intros;simp) (by intros;simp) (by intros;simp),fun y=>absurd y (bO _),fun y=>absurd y (bO _),fun y=>absurd y (bO _)⟩⟩
  ·rcases f with y|y|y
   ·subst y;exact hb _ _ d.Dr
   ·subst y;exact hb _ _ d.marks
   ·exact(n i y).1
  ·show Lq h V zl (g.D*g.Z).toNat z (fun _=>0) ((g.S.toNat:Nat):Int) g.O 0 false (fun _=>Zn.empty)
   rw[<-hS];exact j
 refine⟨⟨fun i f=>f.1,D,p,bl,ql,g.D.toNat,q,c,_,E,v,⟨rfl,s,fun d _=>cQ _⟩,G,?_,?_⟩,fun i f=>aK f le,{ toWp:=⟨s,fun d _ x L=>by cases L⟩,op:=.inl ⟨rfl,rfl⟩ }⟩
 ·have k:=C
  exact⟨k _ _ E.H9 (by intros;simp) (by intros;simp) (by intros;simp) (by intros;simp) (by intros;simp),k _ _ E.Awv (by intros;simp) (by intros;simp) (by intros;simp) (by intros;simp) (by intros;simp),k _ _ v.Gl (by intros;simp) (by intros;simp) (by intros;simp) (by intros;simp) (by intros;simp),k _ _ v.row (by intros;simp) (by intros;simp) (by intros;simp) (by intros;simp) (by intros;simp),
   fun d hd=>⟨k _ _ (v.que d hd) (by intros;simp) (by intros;simp) (by intros;simp) (by intros;simp) (by intros;simp),k _ _ (v.chan d hd) (by intros;simp) (by intros;simp) (by intros;simp) (by intros;simp) (by intros;simp)⟩⟩
 ·refine⟨fun i f=>?_,⟨hb _ _ E.H9,by omega⟩,⟨hb _ _ E.Awv,by omega⟩,⟨hb _ _ v.Gl,by omega⟩,⟨hb _ _ v.row,by omega⟩,fun d hd=>⟨⟨hb _ _ (v.que d hd),by have:=nm.2.2.2 d hd;omega⟩,⟨hb _ _ (v.chan d hd),by have:=nm.2.2.2 d hd;omega⟩⟩⟩
  rcases f with y|y|y
  ·subst y;exact⟨hb _ _ d.Dr,by omega⟩
  ·subst y;exact⟨hb _ _ d.marks,by omega⟩
  ·exact⟨(n i y).1,by have:=(n i y).2;omega⟩
theorem Axg {ps:Nat->List Int}{a:Nat}:∀n,a<n->(ps a).length<=Nl ps n
 | 0,h=>absurd h (bm _)
 | n+1,h=>by
  rw[Il];rcases cI.1 h with y|y
  ·have:=Axg (ps:=ps) n y;omega
  ·subst y;omega
theorem Atb {ps:Nat->List Int}{a b:Nat}(f:a≠b):∀n,a<n->b<n->(ps a).length+(ps b).length<=Nl ps n
 | 0,h,_=>absurd h (bm _)
 | n+1,j,hb=>by
  rw[Il];rcases cI.1 j with y|y<;>rcases cI.1 hb with z|z
  ·have:=Atb (ps:=ps) f n y z;omega
  ·subst z;have:=Axg (ps:=ps) b y;omega
  ·subst y;have:=Axg (ps:=ps) a z;omega
  ·omega
theorem Aut {zs:Nat->Zn}{a b:Nat}:∀n,(∀i,i<n->(zs i).st=1->i=a\/i=b)->Ra zs n<=(if a<n then 1 else 0)+(if b<n then 1 else 0)
 | 0,_=>by unfold Ra;simp
 | n+1,h=>by
  rw[Ary];have ih:=Aut n fun i j=>h i (by omega)
  by_cases f:(zs n).st=1
  ·rw[aH f]
   rcases h n (aL _) f with y|y
   ·subst y
    rw[aF (bO _)]at ih;rw[aH (aL _)];have:(if b<n then 1 else 0)<=(if b<n+1 then 1 else 0):=by split<;>split<;>omega
    omega
   ·subst y
    rw[aF (bO n)]at ih;rw[aH (aL n)];have:(if a<n then 1 else 0)<=(if a<n+1 then 1 else 0):=by split<;>split<;>omega
    omega
  ·rw[aF f]
   have t1:(if b<n then 1 else 0)<=(if b<n+1 then 1 else 0):=by split<;>split<;>omega
   have t2:(if a<n then 1 else 0)<=(if a<n+1 then 1 else 0):=by split<;>split<;>omega
   omega
noncomputable def Akc(e:En)(z mt off Am seq:Int):List EV:=Bj (Qe (Ee { e with Ay:=mt } z off Am seq).1)
def EOk(e:En)(Am seq:Int):Prop:=(Ee e 0 0 Am seq).2=0
theorem EOk.at{seq:Int}(h:EOk e Am seq){z:Int}(k:0<=z)(a:z<=65535)(hm:0<=mt)(b:mt<=65535)(n:0<=off)(f:off<=65535):(Ee { e with Ay:=mt } z off Am seq).2=0:=by
 unfold EOk Ee at h;by_cases j:erB e=true/\frB ⟨e.kind,0,0,Am,seq,(Du e).1⟩=true/\e.first<=seq/\seq-e.count<e.first
 ·obtain⟨c1,c2,c3,c4⟩:=j
  unfold Ee;rw[aH];refine⟨?_,?_,c3,c4⟩
  ·unfold erB at c1⊢
   simp only[aV]at c1⊢;exact⟨c1.1,c1.2.1,Ec.2 ⟨hm,b⟩,c1.2.2.2⟩
  ·unfold frB at c2⊢
   simp only[aV]at c2⊢;exact⟨c2.1,Ec.2 ⟨k,a⟩,Ec.2 ⟨n,f⟩,c2.2.2.2⟩
 ·rw[aF j]at h
  exact absurd h (by decide)
theorem EOk.seq{seq:Int}(h:EOk e Am seq):0<=seq/\seq<=281474976710655/\erB e=true:=by
 unfold EOk Ee at h;by_cases a:erB e=true/\frB ⟨e.kind,0,0,Am,seq,(Du e).1⟩=true/\e.first<=seq/\seq-e.count<e.first
 ·obtain⟨c1,c2,c3,c4⟩:=a
  unfold frB at c2;simp only[aV]at c2;have:=Ec.1 c2.2.2.2.2;exact⟨this.1,this.2,c1⟩
 ·rw[aF a]at h
  exact absurd h (by decide)
structure Calm(S:Mi):Prop where
 wf:S.Wf
 rt:rtB S.g=true
 ev:S.dr.ev = []
 up:S.dr.dv.down=false
 n:S.dr.dv.n=(S.g.D*S.g.Z).toNat
 size:S.dr.dv.size=S.g.S.toNat
 op:S.dr.dv.op=S.g.O
 bad:∀i,¬S.bad i=1
 nd:∀d,d<S.g.D.toNat->(S.ps d).Nodup
 fr:∀d,d<S.g.D.toNat->∀x∈S.ps d,(S.dr.dv.zs x.toNat).l = []/\(S.dr.dv.zs x.toNat).st=0
 opn:(S.a = -1/\S.b = -1)\/(0<=Bo S.g S.a/\0<=Bo S.g S.b/\¬Bo S.g S.a=Bo S.g S.b/\0<=S.u/\S.u<=S.g.S /\
  (∀d,d<S.g.D.toNat->S.a ∉ S.ps d/\S.b ∉ S.ps d)/\(∀z,z=S.a\/z=S.b->((S.dr.dv.zs z.toNat).l.length:Int)=S.u/\(S.dr.dv.zs z.toNat).st=if S.u=S.g.S then 2 else if S.u=0 then 0 else 1))
 few:∀i,i<S.dr.dv.n->(S.dr.dv.zs i).st=1->(i:Int)=S.a\/(i:Int)=S.b
theorem Calm.sm(c:Calm S):Sm S.g:=Oj c.rt
theorem Sn(c:Calm S){z:Int}(h:0<=Bo S.g z):0<=z/\z.toNat<S.dr.dv.n/\S.dr.dv.has z=true/\z<=511:=by
 have j:=c.sm.d1;have h2:=c.sm.z1;have k:=c.sm.d0;have h4:=c.sm.z0;obtain⟨o,m1⟩:=Qi (a:=S.g.D) (b:=S.g.Z) (A:=8) (B:=64) (by omega) (by omega) (by omega) (by omega);rcases I9 c.sm z with y|⟨_,_,_,f,p⟩
 ·omega
 ·have q:=c.n
  refine⟨f,by omega,?_,by omega⟩;unfold Dv.has;exact aP ⟨f,by omega⟩
theorem Yy {S:Jp}(h:S.ev = [])(i:Int):S.begin i=S:=by
 have hd:S.due=S:=by
  unfold Jp.due;rw[h];unfold Awu;rw[<-h]
 unfold Jp.begin;split
 ·exact hd
 ·rfl
theorem Agw(h:D.down=false){i:Int}(a:D.has i=true):D.E1 i=0:=by
 unfold Dv.E1;rw[h,a];simp
theorem Awd(h:D.down=false){i:Int}(a:D.has i=true)(hs:(D.zs i.toNat).st<2)(b:¬D.op<=Ra D.zs D.n)(x:List EV):
 D.append i x=(D.tick.set i.toNat ((D.zs i.toNat).app D.size x),(((D.zs i.toNat).l.length:Nat):Int),0):=by
 unfold Dv.append;rw[Agw h a,aF (fun y=>y rfl),aF (fun y=>b y.2),aF (by omega)]
theorem A6x(ev:S.dr.ev = [])(up:S.dr.dv.down=false){Ah Ay seq:Int}(a:(Ee { e with Ay:=Ay } Ah S.u Am seq).2=0)(b:S.dr.dv.has Ah=true)(hs:(S.dr.dv.zs Ah.toNat).st<2)(f:¬S.dr.dv.op<=Ra S.dr.dv.zs S.dr.dv.n)
 (j:((S.dr.dv.zs Ah.toNat).l.length:Int)=S.u) :
 S.put e Ah Ay Am seq=({ S with dr:={ S.dr with dv:=S.dr.dv.tick.set Ah.toNat ((S.dr.dv.zs Ah.toNat).app S.dr.dv.size (Akc e Ah Ay S.u Am seq)) } },0):=by
 unfold Mi.put Jp.append;rw[aF (fun y=>y a),Yy ev];have k:=Awd up b hs f (Bj (Qe (Ee { e with Ay:=Ay } Ah S.u Am seq).1));simp only[k,j,aC,and_false,ak];rfl
noncomputable def Mi.Tn(S:Mi)(e:En)(Am seq:Int):Mi:=
 { S with dr:={ S.dr with dv:=((S.dr.dv.tick.set S.a.toNat ((S.dr.dv.zs S.a.toNat).app S.dr.dv.size (Akc e S.a S.b S.u Am seq))).tick.set S.b.toNat ((S.dr.dv.zs S.b.toNat).app S.dr.dv.size (Akc e S.b S.a S.u Am seq))) },u:=S.u+1 }
def Roomy(S:Mi):Prop:=¬S.a = -1/\S.u<S.g.S
theorem Calm.ne(c:Calm S)(r:Roomy S):0<=Bo S.g S.a/\0<=Bo S.g S.b/\¬Bo S.g S.a=Bo S.g S.b/\0<=S.u/\S.a.toNat≠S.b.toNat /\
 (∀d,d<S.g.D.toNat->S.a ∉ S.ps d/\S.b ∉ S.ps d)/\(∀z,z=S.a\/z=S.b->((S.dr.dv.zs z.toNat).l.length:Int)=S.u/\(S.dr.dv.zs z.toNat).st=if S.u=0 then 0 else 1):=by
 rcases c.opn with y|⟨f,j,k,n,t,o,p⟩
 ·exact absurd y.1 r.1
 ·have v:=Sn c f
  have h2:=Sn c j;refine⟨f,j,k,n,fun y=>k ?_,o,fun z q=>?_⟩
  ·have:S.a=S.b:=by omega
   rw[this]
  ·have:=p z q
   have hu:=r.2;rw[aF (by omega)]at this;exact this
theorem Be2(c:Calm S)(r:Roomy S){seq:Int}(he:EOk e Am seq):
 S.both e Am seq=({ S.Tn e Am seq with u:=S.u },S.b,0):=by
 obtain⟨p,q,n3,n4,t,O,k⟩:=c.ne r;obtain⟨o,P,v,T⟩:=Sn c p;obtain⟨b1,b2,b3,b4⟩:=Sn c q;have hs:=c.sm;have:=hs.s1;have:=hs.o0;have U:=r.2;have B:=c.op;obtain⟨C,E⟩:=k _ (.inl rfl);obtain⟨lb,G⟩:=k _ (.inr rfl);have f1:=he.at (z:=S.a) (mt:=S.b) (off:=S.u) o (by omega) b1 (by omega) n4 (by omega);have f2:=he.at (z:=S.b) (mt:=S.a) (off:=S.u) b1 (by omega) o (by omega) n4 (by omega);have o1:¬S.dr.dv.op<=Ra S.dr.dv.zs S.dr.dv.n:=by
  have:=Aut (zs:=S.dr.dv.zs) (a:=S.a.toNat) (b:=S.b.toNat) S.dr.dv.n fun i j h=>by
   rcases c.few i j h with y|y<;>omega
  have H:(if S.a.toNat<S.dr.dv.n then 1 else 0)<=1:=by split<;>omega
  have h2:(if S.b.toNat<S.dr.dv.n then 1 else 0)<=1:=by split<;>omega
  omega
 have p1:=A6x c.ev c.up f1 v (by rw[E];split<;>omega) o1 C;unfold Mi.both;rw[p1,aF (fun y=>y rfl)];have f:(H6 S.dr.dv.zs S.a.toNat ((S.dr.dv.zs S.a.toNat).app S.dr.dv.size (Akc e S.a S.b S.u Am seq)) S.b.toNat)=S.dr.dv.zs S.b.toNat:=by
  unfold H6;rw[aF (cP t)]
 have J:¬S.dr.dv.op<=Ra (H6 S.dr.dv.zs S.a.toNat ((S.dr.dv.zs S.a.toNat).app S.dr.dv.size (Akc e S.a S.b S.u Am seq))) S.dr.dv.n:=by
  have:=Aut (zs:=H6 S.dr.dv.zs S.a.toNat ((S.dr.dv.zs S.a.toNat).app S.dr.dv.size (Akc e S.a S.b S.u Am seq))) (a:=S.a.toNat) (b:=S.b.toNat) S.dr.dv.n fun i j h=>by
   unfold H6 at h;split at h
   ·rename_i y;exact .inl y
   ·rcases c.few i j h with y|y<;>omega
  have H:(if S.a.toNat<S.dr.dv.n then 1 else 0)<=1:=by split<;>omega
  have h2:(if S.b.toNat<S.dr.dv.n then 1 else 0)<=1:=by split<;>omega
  omega
 have L:=A6x (S:={ S with dr:={ S.dr with dv:=S.dr.dv.tick.set S.a.toNat ((S.dr.dv.zs S.a.toNat).app S.dr.dv.size (Akc e S.a S.b S.u Am seq)) } }) (Ah:=S.b) (Ay:=S.a) c.ev c.up f2 b3
  (by show(H6 S.dr.dv.zs S.a.toNat _ S.b.toNat).st<2;rw[f,G];split<;>omega) J (by show((H6 S.dr.dv.zs S.a.toNat _ S.b.toNat).l.length:Int)=S.u;rw[f];exact lb)
 rw[L];have e1:(({ S with dr:={ S.dr with dv:=S.dr.dv.tick.set S.a.toNat ((S.dr.dv.zs S.a.toNat).app S.dr.dv.size (Akc e S.a S.b S.u Am seq)) } }:Mi).dr.dv.zs S.b.toNat)=S.dr.dv.zs S.b.toNat:=f;rw[e1];rfl
noncomputable def Mi.Q3(S:Mi):Mi:={ S with dr:={ S.dr with dv:={ S.dr.dv.tick with zs:=fun i=>(S.dr.dv.zs i).flush } } }
theorem Akk(ev:S.dr.ev = [])(up:S.dr.dv.down=false):S.dr.flush=(S.Q3.dr,0):=by
 have hd:S.dr.due=S.dr:=by
  unfold Jp.due;rw[ev];unfold Awu;rw[<-ev]
 unfold Jp.flush;rw[hd];unfold Dv.flush;rw[up];rfl
noncomputable def Mi.Aqd(S:Mi):Option Mi:=
 open Classical in if Roomy S then some S else match Aer S.ps S.g.D.toNat with
  | none=>none
  | some (x,y,ps')=>some { S.Q3 with ps:=ps',a:=x,b:=y,u:=0 }
theorem T9(s:Sm g){x y:Int}(a:0<=Bo g x)(b:0<=Bo g y)(h:x.toNat=y.toNat):x=y:=by
 have:=Je s a;have:=Je s b;omega
theorem A7l {T:Mi}(c:Calm S)(h:S.Aqd=some T):Calm T/\Roomy T/\T.g=S.g/\T.bad=S.bad/\T.dr.ev=S.dr.ev/\T.dr.Pp=S.dr.Pp:=by
 unfold Mi.Aqd at h;split at h
 ·rename_i r
  cases h;exact⟨c,r,rfl,rfl,rfl,rfl⟩
 ·rename_i G
  cases hp:Aer S.ps S.g.D.toNat with
  | none=>rw[hp]at h;cases h
  | some t=>
   obtain⟨x,y,ps'⟩:=t;rw[hp]at h;cases h;obtain⟨i,j,H,hj,J,ex,p,B,_,_,W,X⟩:=Aix c.wf.ps hp;have sub:∀d,d<S.g.D.toNat->∀z,z∈ps' d->z∈S.ps d/\z≠x/\z≠y:=fun d hd z f=>by
    have nd:=c.nd d hd;have key:z∈S.ps d:=by
     by_cases o:d=i
     ·subst o;rw[ex];exact aR _ f
     ·by_cases h2:d=j
      ·subst h2;rw[p];exact aR _ f
      ·rw[<-B d o h2];exact f
    have dz:=(c.wf.ps d hd z key).1;refine⟨key,fun v=>?_,fun v=>?_⟩
    ·subst v
     have:d=i:=by omega
     subst this;rw[ex]at nd;exact(cB.1 nd).1 f
    ·subst v
     have:d=j:=by omega
     subst this;rw[p]at nd;exact(cB.1 nd).1 f
   have L:x∈S.ps i:=by rw[ex];exact aW ..
   have O:y∈S.ps j:=by rw[p];exact aW ..
   have C:=c.fr i H x L;have E:=c.fr j hj y O;have s0:=c.sm.s0;have full:∀z:Int,(z=S.a\/z=S.b)->¬S.a = -1->(S.dr.dv.zs z.toNat).st=2:=fun z f q=>by
    rcases c.opn with y|⟨Y,Z,y3,y4,y5,y6,P⟩
    ·exact absurd y.1 q
    ·have:=(P z f).2
     have hu:S.u=S.g.S:=by
      rcases Decidable.em (S.u<S.g.S)with y|y
      ·exact absurd ⟨q,y⟩ G
      ·omega
     rw[aH hu]at this;exact this
   refine⟨⟨{ toWp:=⟨c.wf.sm,fun d hd z f=>c.wf.ps d hd z (sub d hd z f).1⟩,op:=.inr ⟨⟨by show 0<=Bo S.g x;omega,c.bad _⟩,⟨by show 0<=Bo S.g y;omega,c.bad _⟩⟩ },c.rt,c.ev,c.up,c.n,c.size,c.op,c.bad,fun d hd=>?_,fun d hd z f=>c.fr d hd z (sub d hd z f).1,.inr ⟨by show 0<=Bo S.g x;omega,by show 0<=Bo S.g y;omega,by show ¬Bo S.g x=Bo S.g y;omega,cY _,by show 0<=S.g.S;omega,fun d hd=>⟨fun f=>(sub d hd x f).2.1 rfl,fun f=>(sub d hd y f).2.2 rfl⟩,fun z f=>?_⟩,fun k U hs=>?_⟩,⟨?_,by show 0<S.g.S;omega⟩,rfl,rfl,rfl,rfl⟩
   ·show(ps' d).Nodup
    have nd:=c.nd d hd;by_cases o:d=i
    ·subst o;rw[ex]at nd;exact(cB.1 nd).2
    ·by_cases h2:d=j
     ·subst h2;rw[p]at nd;exact(cB.1 nd).2
     ·rw[B d o h2];exact nd
   ·show(((S.dr.dv.zs z.toNat).flush.l.length:Nat):Int)=0/\((S.dr.dv.zs z.toNat).flush).st=if(0:Int)=S.g.S then 2 else if(0:Int)=0 then 0 else 1
    rw[aF (by omega),aH rfl];have f:z=x\/z=y:=f;rcases f with f|f
    ·subst f;exact⟨by show(((S.dr.dv.zs z.toNat).l.length:Nat):Int)=0;rw[C.1];rfl,C.2⟩
    ·subst f;exact⟨by show(((S.dr.dv.zs z.toNat).l.length:Nat):Int)=0;rw[E.1];rfl,E.2⟩
   ·exfalso
    have hs:(S.dr.dv.zs k).st=1:=hs;have V:=c.few k U hs;have q:¬S.a = -1:=fun y=>by
     rcases c.opn with z|z
     ·omega
     ·rw[y]at z
      have:=Je c.sm z.1;omega
    have:=full k V q;rw[show((k:Nat):Int).toNat=k from rfl]at this;omega
   ·have:=Je c.sm (z:=x) (by omega)
    show ¬x = -1;omega
theorem Calm.Tn(c:Calm S)(r:Roomy S)(e:En)(Am seq:Int):Calm (S.Tn e Am seq):=by
 obtain⟨p,q,n3,n4,B,t,C⟩:=c.ne r;have E:=c.size;have s0:=c.sm.s0;have L:=r.2;have G:((S.Tn e Am seq).dr.dv.zs S.a.toNat)=(S.dr.dv.zs S.a.toNat).app S.dr.dv.size (Akc e S.a S.b S.u Am seq):=by
  show H6 (H6 S.dr.dv.zs S.a.toNat _) S.b.toNat _ S.a.toNat=_;unfold H6;rw[aF B,aH rfl]
 have H:((S.Tn e Am seq).dr.dv.zs S.b.toNat)=(S.dr.dv.zs S.b.toNat).app S.dr.dv.size (Akc e S.b S.a S.u Am seq):=by
  show H6 (H6 S.dr.dv.zs S.a.toNat _) S.b.toNat _ S.b.toNat=_;unfold H6;rw[aH rfl]
 have v:∀i,i≠S.a.toNat->i≠S.b.toNat->((S.Tn e Am seq).dr.dv.zs i)=S.dr.dv.zs i:=fun i k h2=>by
  show H6 (H6 S.dr.dv.zs S.a.toNat _) S.b.toNat _ i=_;unfold H6;rw[aF h2,aF k]
 have o:∀z x,z=S.a\/z=S.b->(((S.dr.dv.zs z.toNat).app S.dr.dv.size x).l.length:Int)=S.u+1/\((S.dr.dv.zs z.toNat).app S.dr.dv.size x).st=if S.u+1=S.g.S then 2 else if S.u+1=0 then 0 else 1:=fun z x f=>by
  obtain⟨l,s⟩:=C z f;refine⟨by simp only[Zn.app,aG,List.length_singleton];omega,?_⟩;simp only[Zn.app];by_cases h:S.u+1=S.g.S
  ·rw[aH h,aH (by omega)]
  ·rw[aF h,aF (by omega),aF (by omega)]
 refine⟨{ toWp:=⟨c.wf.sm,c.wf.ps⟩,op:=c.wf.op },c.rt,c.ev,c.up,c.n,c.size,c.op,c.bad,c.nd,fun d hd x j=>?_,.inr ⟨p,q,n3,by show 0<=S.u+1;omega,by show S.u+1<=S.g.S;omega,t,fun z f=>?_⟩,fun i J hs=>?_⟩
 ·have j:x∈S.ps d:=j
  have O:=(c.wf.ps d hd x j).1;have k:x≠S.a:=fun y=>(t d hd).1 (y▸j)
  have h2:x≠S.b:=fun y=>(t d hd).2 (y▸j)
  rw[v _ (fun y=>k (T9 c.sm (by omega) p y)) (fun y=>h2 (T9 c.sm (by omega) q y))];exact c.fr d hd x j
 ·have f:z=S.a\/z=S.b:=f
  show((((S.Tn e Am seq).dr.dv.zs z.toNat).l.length:Nat):Int)=S.u+1/\((S.Tn e Am seq).dr.dv.zs z.toNat).st=if S.u+1=S.g.S then 2 else if S.u+1=0 then 0 else 1
  rcases f with f|f
  ·subst f;rw[G];exact o _ _ (.inl rfl)
  ·subst f;rw[H];exact o _ _ (.inr rfl)
 ·show(i:Int)=S.a\/(i:Int)=S.b
  have P:=Je c.sm p;have T:=Je c.sm q;by_cases k:i=S.a.toNat
  ·exact .inl (by omega)
  ·by_cases h2:i=S.b.toNat
   ·exact .inr (by omega)
   ·rw[v i k h2]at hs
    exact c.few i J hs
theorem A97(c:Calm S):S.ready=match S.Aqd with|some T=>(T,0)|none=>(S.Q3,40):=by
 have b:=Akk c.ev c.up;unfold Mi.ready Mi.Aqd;by_cases r:Roomy S
 ·rw[aH r]
  simp only[r,bI];exact aH r
 ·simp only[r,ak]
  rw[aF (show ¬(¬S.a = -1/\S.u<S.g.S)from r),b];simp only[aC,ak];cases Aer S.ps S.g.D.toNat with
  | none=>rfl
  | some t=>rfl
theorem A8h(c:Calm S){seq:Int}(he:EOk e Am seq):S.place e Am seq=match S.Aqd with
 | some T=>(T.Tn e Am seq,⟨1,T.a,T.b,T.u,seq,E6 e.bytes⟩,0)
 | none=>(S.Q3,Me.zero,40):=by
 unfold Mi.place;rw[aF (fun y=>y he)];show Mi.R8 e Am seq (999+1) S=_;unfold Mi.R8;rw[A97 c];cases j:S.Aqd with
 | none=>rfl
 | some T=>
  obtain⟨f,rT,_⟩:=A7l c j;simp only[aC,ak];rw[Be2 f rT he,aH rfl];have:=f.sm.s1;have hu:=rT.2;have k:=(f.ne rT).2.2.2.1;have:(({ T.Tn e Am seq with u:=T.u }:Mi).Aqf)=T.Tn e Am seq:=by
   unfold Mi.Aqf;simp only;rw[Cq];rfl
  rw[this];rfl
noncomputable def Mi.Aeo(S:Mi)(z:Int):Mi:={ S with ps:=(U5 S.g S.g.D.toNat S.ps z).2 }
theorem Mi.Wf.Aeo(w:S.Wf){z:Int}(a:0<=Bo S.g z->¬S.bad z.toNat=1):(S.Aeo z).Wf:={ toWp:=⟨w.sm,A1i w.ps _ _ a⟩,op:=w.op }
section
variable(M:Cv h m S F)(hb:HB h)
include M
theorem O0(hb:HB h):Ok (Ca K (.ptr m 0) h) fun v h'=>v=gV S.g/\Ext h h':=by
 obtain⟨_,D,p,bl,ql,np,q,c,G,a⟩:=M.s;exact Ayl a.H9 hb
theorem A5v:Ll K (.ptr m 0) h=some (.tuple [I S.a,I S.b,I S.u],h):=by
 obtain⟨_,D,p,bl,ql,np,q,c,G,a⟩:=M.s;exact Azm a.H9
include hb
theorem A7a(A:Bv disp)(hK:10000<K):∃p,Ci K (.ptr m 0) h=some (.ptr p 0,h)/\∀{d:Nat},8<=d->∀{z:Int},Rng z->(0<=Bo S.g z->¬S.bad z.toNat=1) ->
 Ok (Ag TT disp K d false 56 [.ptr p 0,I z] h) fun v h'=>v=I (U5 S.g S.g.D.toNat S.ps z).1/\Cv h' m (S.Aeo z) F/\Kf F h h'/\HB h':=by
 obtain⟨lt,D,p,bl,ql,np,q,c,G,a⟩:=M.s;refine⟨p,Wb a.H9,fun {d} hd {z} j k=>?_⟩;have b:=a.psz.nd;subst b;refine(Bbj (K:=K) A a.Gl hb a.psz (by omega) hd z j).mono ?_;rintro v h' ⟨c3,f,rfl,n,o⟩;obtain⟨t,cH⟩:=a.Ao3 hb n o c3;obtain⟨u,y⟩:=M.made (Rk.mono (H:=Out F h) ⟨fun i B=>aK B.1 cH.next,D,p,bl,ql,_,q,c,G,t⟩ (fun _=>.inl) (Bf.lt lt cH.next)) cH (M.wf.Aeo k);exact⟨rfl,u,y,f⟩
end
structure A67(S:Mi):Prop where
 calm:Calm S
 cl:S.a = -1/\S.b = -1
 zs:∀i,S.dr.dv.zs i=Zn.empty
theorem Bdr(b:rtB g=true):A67 (Mi.new g):=by
 have s:=Oj b;refine⟨⟨{ toWp:=⟨s,fun d _ x a=>(by cases a)⟩,op:=.inl ⟨rfl,rfl⟩ },b,rfl,rfl,rfl,rfl,rfl,fun i y=>(by cases y),fun d _=>dG,fun d _ x a=>(by cases a),.inl ⟨rfl,rfl⟩,fun i _ y=>(by cases y)⟩,⟨rfl,rfl⟩,fun _=>rfl⟩
theorem A67.Aeo(f:A67 S)(z:Int):A67 (S.Aeo z):=by
 have c:=f.calm;have nd:∀d,d<S.g.D.toNat->((S.Aeo z).ps d).Nodup:=fun d hd=>by
  show((U5 S.g S.g.D.toNat S.ps z).2 d).Nodup;unfold U5;split
  ·exact c.nd d hd
  ·split
   ·exact c.nd d hd
   ·rename_i h0 j
    split
    ·simp only[upd]
     split
     ·rename_i e
      rw[List.nodup_append];refine⟨by rw[<-e];exact c.nd d hd,by simp,fun a k b hb y=>?_⟩;rw[aM.1 hb]at y;subst y;exact j (Is.2 ⟨d,hd,by rw[e];exact k⟩)
     ·exact c.nd d hd
    ·exact c.nd d hd
 refine⟨⟨c.wf.Aeo fun _=>c.bad _,c.rt,c.ev,c.up,c.n,c.size,c.op,c.bad,nd,fun d hd x o=>?_,.inl f.cl,c.few⟩,f.cl,f.zs⟩;show(S.dr.dv.zs x.toNat).l = []/\(S.dr.dv.zs x.toNat).st=0;rw[f.zs];exact⟨rfl,rfl⟩
theorem Bfg(w:e.Wf){Ah seq:Int}(f:(Ee { e with Ay:=mt } Ah off Am seq).2=0)(j:x.off=off):
 Asg (Qe (Ee { e with Ay:=mt } Ah off Am seq).1) x Ah mt=if ¬e.kind=2/\seq=x.seq/\((E6 e.bytes:Nat):Int)=x.sum then(true,e.bytes)else(false,Dd):=by
 have w':({ e with Ay:=mt }:En).Wf:=⟨w.len,w.u8⟩;obtain⟨k,h2,n,h4⟩:=Asb w' f;have a:=Aul w' Ah off Am seq;rw[k]at a⊢;have b:=Bjj a h2;subst j;unfold Asg;simp only at b;rw[b];simp only[h4,gG]
theorem Aoy(ev:S.dr.ev = [])(up:S.dr.dv.down=false)(w:e.Wf){Ah seq:Int}(f:(Ee { e with Ay:=mt } Ah off Am seq).2=0)(b:x.off=off)
 (j:S.dr.dv.has Ah=true) (hs:¬(S.dr.dv.zs Ah.toNat).st=4) (h0:0<=off) (a:(S.dr.dv.zs Ah.toNat).l[off.toNat]? = some (Akc e Ah mt off Am seq)) :
 S.Db x Ah mt=({ S with dr:={ S.dr with dv:=S.dr.dv.tick } },(if ¬e.kind=2/\seq=x.seq/\((E6 e.bytes:Nat):Int)=x.sum then(true,e.bytes)else(false,Dd)).2,(if ¬e.kind=2/\seq=x.seq/\((E6 e.bytes:Nat):Int)=x.sum then(true,e.bytes)else(false,Dd)).1,0):=by
 have hlen:off.toNat<(S.dr.dv.zs Ah.toNat).l.length:=by
  rcases cU off.toNat (S.dr.dv.zs Ah.toNat).l.length with y|y
  ·exact y
  ·rw[bh y]at a;cases a
 have k:S.dr.read Ah off=({ S.dr with dv:=S.dr.dv.tick },Akc e Ah mt off Am seq,0):=by
  unfold Jp.read;rw[Yy ev];unfold Dv.begin Dv.read;rw[Agw up j,aH rfl,aF (fun y=>y rfl)];unfold Ad9;rw[aF hs,aH (by omega),a];rfl
 unfold Mi.Db;rw[b,k];simp only[bI];have n:=Bfg w f b;rw[show Ah2 (Akc e Ah mt off Am seq)=Qe (Ee { e with Ay:=mt } Ah off Am seq).1 from Aro _,n]
theorem A5l(a:rtB g=true){z:Int}(f:0<=Bo g z)(h0:0<=off)(j:off<g.S):Sk g z off=true:=by
 unfold Sk;rcases I9 (Oj a) z with y|⟨_,_,_,b,k⟩
 ·omega
 ·rw[a,Ec.2 ⟨b,by omega⟩,Ec.2 ⟨h0,by omega⟩];rfl
end Go.Ev
