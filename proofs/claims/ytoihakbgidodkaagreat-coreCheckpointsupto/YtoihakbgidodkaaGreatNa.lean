import Derived.Test.YtoihakbgidodkaaGreatCb
import Derived.Test.YtoihakbgidodkaaGreatIn
import Derived.WalkKit
import Derived.ProofKit
import Derived.OpenShut
import Derived.Carry
import Derived.Deep.Slices
import Derived.Deep.Fields
set_option linter.all false
namespace Go.Ev
open Go.Proofs
set_option maxRecDepth 100000
variable {h h' h0:Ab}{v cs sx v1:EV}{K P b d i j m n q a2 a4 ml qx v6 a15 off:Nat}{L O:List Zf}{k:Ab->List Nat->R}{Q:EV->Ab->Prop}{e:Le}{S:Mi}{F G:Nat->Prop}{o:Zf}{B:Cb}{Y:Co}{g:Gm}{x y zn:Int}{f:Fr}{E es:List Me}{St:Nat->Ab->Prop}{tm:Ba}{ex:Nat->Ab->List Nat->R}{SD:Ba->EV->EV->EV->EV->EV->EV->Ab->List Nat->R}{ds:List Nat}{disp:Nat->Option FT}
theorem Bk8(S:Nat)(k:EV->R):Jk iD (bin TT .eql 26) (.ptr S 0) .Bz k=k (.bool false):=by kernel_rfl
theorem Bi1(k:EV->R):Jk iD (bin TT .eql 26) .Bz .Bz k=k (.bool true):=by kernel_rfl
structure jW(h:Ab)(N:Nat)(v:EV)(b:Nat)(L:List Zf):Prop where
 row:(L = []/\lenOf v=some 0)\/(b<N/\∃off r op,v=.slice b off L.length r op/\L.length<=r/\∀j (hj:j<L.length) (k:EV->R),Oo 72 (.ptr b (off+j*72)) h k=k (.agg L[j].cells))
 Ly:∀o∈L,o.At h/\(0<o.bs.length->o.bq<N)/\o.bs.length<=1048576/\Vv o.x
theorem jW.frame{N:Nat}(r:jW h N v b L)(e:∀i,i<N->h'.get i=h.get i):jW h' N v b L:=by
 refine⟨?_,fun o p=>?_⟩
 ·rcases r.row with y|⟨hb,off,t,op,rfl,u,y⟩
  ·exact .inl y
  ·refine .inr ⟨hb,off,t,op,rfl,u,fun j hj k=>?_⟩
   have:=y j hj k;show oB _ (kx (h'.get b) _ 72)=_;rw[e b hb];exact this
 ·obtain⟨a,c,d,f⟩:=r.Ly o p
  exact⟨⟨a.row.frame fun y=>e _ (c y),a.ev,a.pl⟩,c,d,f⟩
theorem jW.Fz{N:Nat}(r:jW h N v b L)(k:EV->R):Ev.Fz v k=k (I L.length):=by
 rcases r.row with⟨rfl,y⟩|⟨_,off,a,op,rfl,_⟩
 ·unfold Ev.Fz;rw[y];rfl
 ·rfl
theorem jW.at{N:Nat}(r:jW h N v b L)(hj:j<L.length)(k:EV->R):Ve 72 v (.int .i64 (j:Int)) (fun p=>Oo 72 p h k)=k (.agg L[j].cells):=by
 rcases r.row with⟨rfl,_⟩|⟨_,off,a,op,rfl,_,y⟩
 ·exact absurd hj (cT _)
 ·rw[Md hj];exact y j hj k
theorem SE:(List.replicate 3 (EV.int .i64 0)++[EV.An]++List.replicate 4 (EV.int .i64 0)++List.replicate 64 (EV.int .u8 0)).length=72:=by kernel_rfl
theorem Bp9{N:Nat}(R0:jW h N v b L)(a:i<L.length){k:Ab->R}(u:∀h2,Ext h h2->h2.get h.next=some (.cells L[i].cells 36)->h2.next=h.next+1->Ok (k h2) Q):
 Ok (Ve 72 v (.int .i64 (i:Int)) fun p=>Oo 72 p h fun w=>Vz 72 (.ptr h.next 0) w (h.new (.cells (List.replicate 3 (.int .i64 0)++[.An]++List.replicate 4 (.int .i64 0)++List.replicate 64 (.int .u8 0)) 36)) k) Q:=by
 rw[R0.at a];have ol:=Zf.len ((R0.Ly _ (aZ a)).1.ev);refine Ok.st L[i].cells (Ad _ _) rfl (by show Fw L[i].cells=72;rw[Be,ol]) (Bl (by show _=L[i].cells.length;rw[ol];exact SE)) ?_;have C:=SE;generalize List.replicate 3 (EV.int .i64 0)++[EV.An]++List.replicate 4 (EV.int .i64 0)++List.replicate 64 (EV.int .u8 0)=t at C⊢;have D:Ext h ((h.new (.cells t 36)).put h.next (.cells L[i].cells 36)):=(Aw.new h _:Ext _ _).Ao (.inr (aD _)) (aO _) _;exact u _ D (Af _ _ _) rfl
theorem A81(e:Le):Ok (T9 K (.agg e.cells) h) fun v h'=>(∃b:Bool,v=.bool b)/\Ext h h':=by
 simp only[T9,Aa];obtain⟨a,u,p,t,_⟩:=nW h (.cells e.cells 34);rw[u];rw[Ak t rfl (v:=I e.Ly) rfl];simp only[I,Ac];by_cases a:e.Ly≥0
 ·simp only[a,aB,Aa]
  rw[Ak t rfl (v:=I e.kind) rfl];simp only[I,Ac,Uv];by_cases h2:e.kind≥1
  ·simp only[h2,aB,Aa,Ac]
   rw[Ak t rfl (v:=I e.kind) rfl];simp only[I,Ac,O8,Aa];exact .ret ⟨⟨_,rfl⟩,p⟩
  ·simp only[h2,aA,Aa,Ac,O8]
   exact .ret ⟨⟨_,rfl⟩,p⟩
 ·simp only[a,aA,Aa,Ac,Uv,O8]
  exact .ret ⟨⟨_,rfl⟩,p⟩
theorem yJ {L:List Le}(hw:∀e∈L,e.Wf):∀x∈L.map Le.cells,x.length=68:=fun x a=>by
 obtain⟨e,he,rfl⟩:=b9.1 a;exact Le.Ay (hw e he)
theorem Bsn {L:List Le}(hw:∀e∈L,e.Wf)(hj:j<L.length):(L.map Le.cells).flatten[j*68]? = some (I L[j].Ly):=by
 obtain⟨e,a,h2⟩:=vn (n:=68) (yJ hw) (j:=j) (by rw[bT];exact hj);rw[e,bQ,bm a_,a,fM,List.getElem_map,cI (by rw[Le.Ay (hw _ (aZ hj))];omega)];rfl
theorem Bn1 {L:List Le}(hw:∀e∈L,e.Wf)(a:i<=L.length):(L.map Le.cells).flatten.take (i*68)=((L.take i).map Le.cells).flatten/\(L.map Le.cells).flatten.drop (i*68)=((L.drop i).map Le.cells).flatten:=by
 have e:(L.map Le.cells).flatten=((L.take i).map Le.cells).flatten++((L.drop i).map Le.cells).flatten:=by
  rw[<-cm,<-bZ,List.take_append_drop]
 have p:((L.take i).map Le.cells).flatten.length=i*68:=by
  rw[qi (n:=68) _ (yJ fun e he=>hw e (bS he)),bT,bH,eB a]
 rw[e,<-p,dQ,dN];exact⟨rfl,rfl⟩
theorem Boc{s:EV}{L:List Le}(row:Bu h s q 34 68 L.length (L.map Le.cells).flatten)(hw:∀e∈L,e.Wf)(w:e.Wf)(hj:h.get j=some (.cells e.cells 34))(t:i<=L.length)(u:L.length<=1000):
 ∃h',qe s (i:Int) j h=some (.slice h.next 0 (L.length+1) (L.length+1) true,h')/\Bu h' (.slice h.next 0 (L.length+1) (L.length+1) true) h.next 34 68 (L.length+1) ((L.take i++[e]++L.drop i).map Le.cells).flatten/\h'.next=h.next+1/\Aw (fun k=>0<L.length/\k=q) h h':=by
 have el:=Le.Ay w;have fl:((L.take i++[e]++L.drop i).map Le.cells).flatten=((L.take i).map Le.cells).flatten++e.cells++((L.drop i).map Le.cells).flatten:=by
  simp only[bZ,cm,cZ,List.map_nil,cJ,List.flatten_nil,cW]
 have hlen:((L.take i++[e]++L.drop i).map Le.cells).flatten.length=(L.length+1)*68:=by
  rw[qi (n:=68) _ (yJ fun x a=>?_)]
  ·rw[bT];simp only[aE,bH,aU,List.length_singleton];omega
  ·rcases bO.1 a with a|a
   ·rcases bO.1 a with a|a
    ·exact hw x (bS a)
    ·rw[aP.1 a];exact w
   ·exact hw x (aG a)
 have nil:L.length=0->((L.take i++[e]++L.drop i).map Le.cells).flatten=e.cells/\i=0:=fun h0=>by
  have:=bh.1 h0;subst this;obtain rfl:i=0:=by simpa using t
  exact⟨by simp,rfl⟩
 rcases row with⟨h0,_,hs⟩|⟨C,rfl,D,p⟩
 ·obtain⟨J,rfl⟩:=nil h0
  have res:qe s ((0:Nat):Int) j h=some (.slice h.next 0 1 1 true,h.new (.vec e.cells 34 68)):=by
   unfold qe;rw[hj];rcases hs with rfl|⟨b,rfl⟩
   ·simp[el]
   ·simp[el]
  refine⟨_,by rw[h0];exact res,.inr ⟨a_,rfl,?_,hlen⟩,rfl,Aw.new _ _⟩;rw[J];exact Ad _ _
 ·obtain⟨t1,t2⟩:=Bn1 hw t
  refine⟨(h.del q).new (.vec (((L.take i++[e]++L.drop i).map Le.cells).flatten) 34 68),?_,.inr ⟨a_,rfl,?_,hlen⟩,rfl,(Aw.del h (.inl ⟨C,rfl⟩)).trans (Aw.new _ _)⟩
  ·unfold qe
   rw[hj];simp only[el,gQ,D];rw[aN a_,aN ⟨p,a_,u⟩,bJ,t1,t2,fl]
  ·rw[show h.next=(h.del q).next from rfl,Ad]
theorem Bgw {c r:Ah}{D V M qc v3:Nat}{hs:EV}{L:List Le}(hd:h.get D=some (.cells [.ptr V 0,cs,hs,.map M] 118))(row:Bu h cs qc 34 68 L.length (L.map Le.cells).flatten)(hw:∀e∈L,e.Wf)(t:h.get v3=some (.cells e.cells 34))(T:L.length<=1000)
 (a:∀i:Nat,i<=L.length->Ok (Wb c r K (.ptr D 0) (.ptr v3 0) (I i) h) Q):∀(f i:Nat),i<f->i<=L.length->Ok (Jt c r K f (.ptr D 0) (.ptr v3 0) (I i) h) Q:=by
 intro f;induction f with
 | zero=>intro i u;omega
 | succ f C=>
  intro i u J;rw[Jt];simp only[I,Ac];by_cases h0:i=0
  ·subst h0
   simp only[show decide (((0:Nat):Int)>0)=false from rfl,Aa,Ac,Qh];exact a 0 a_
  ·have e3:decide ((i:Int)>0)=true:=by simp;omega
   simp only[e3,Aa];rw[Ak hd rfl (v:=cs) rfl]
   try simp only[Ac]
   rw[Ci,show(i:Int)-1=((i-1:Nat):Int) from a_,row.ix a_];simp only[Aa,dI];rw[Ak (row.block a_) rfl (Bsn hw (j:=i-1) a_),Ak t rfl (v:=I e.Ly) rfl];simp only[I,Ac,Qh,Aa];by_cases p:L[i-1].Ly>e.Ly
   ·simp only[p,aB,Aa,Ac,HZ]
    rw[Ci,show(i:Int)-1=((i-1:Nat):Int) from a_];exact C (i-1) a_ a_
   ·simp only[p,aA,Aa,Ac]
    exact a i J
theorem Baz(A:Ca disp)(aw:disp 89=some nG)(hK:10000<K)(hd:2<=d){D:Nat}{S:Jj}(s:Fo h D S G)(hb:HB h)(w:e.Wf)(hl:S.ev.length+S.Qc.length<=199):
 Ok (Ag TT disp K d false 50 [.ptr D 0,.agg e.cells] h) fun _ h'=>∃l:List Le,(l=S.ev\/∃n,l=S.ev.take n++[e]++S.ev.drop n)/\l.length<=S.ev.length+1/\Fo h' D { S with ev:=l } (Bg G h h')/\Aw G h h'/\HB h':=by
 obtain⟨e',rfl⟩:∃k,d=k+2:=⟨d-2,a_⟩;rw[Arf A a_];have el:=Le.Ay w;simp only[H_,Aa];obtain⟨h1,e_,x1,g1,_⟩:=nW h (.cells e.cells 34);rw[e_];have ad:=x1.hb hb;rw[Cd g1 rfl (Ai el)]
 try simp only[Aa]
 refine(A81 (K:=K) e).Al ?_;rintro _ h2 ⟨⟨bb,rfl⟩,x2⟩;have a:=x2.hb ad;have C:Ext h h2:=x1.trans x2;have s2:=s.ext C;have no:∀v,Ok (some (v,h2)) fun _ h'=>∃l:List Le,(l=S.ev\/∃n,l=S.ev.take n++[e]++S.ev.drop n)/\l.length<=S.ev.length+1/\Fo h' D { S with ev:=l } (Bg G h h')/\Aw G h h'/\HB h':=fun v=>
  .ret ⟨S.ev,.inl rfl,fK _,s2.grow s.lt C.next,Ext.to C,a⟩
 cases bb with
 | false=>
  simp only[Aa,Ac];exact no _
 | true=>
  obtain⟨V,M,qc,qh,cs,hs,ms,F,b⟩:=s2.Ly;have g3:=x2.at ad g1;have hwf:=s.wf;simp only[Aa,Ac];rw[Ak b.C0 rfl (v:=cs) rfl,b.Fl.Fz];simp only[Ac];have e5:decide ((S.ev.length:Int)≥256)=false:=by simp;omega
  simp only[e5,Aa,H'];rw[Ak b.C0 rfl (v:=cs) rfl,b.Fl.Fz];refine Bgw (K:=K) b.C0 b.Fl hwf.wf g3 a_ ?_ K S.ev.length a_ (aD _);intro i hi;simp only[Wb,Aa,Ar];have lD:=a _ _ b.C0;have l3:=a _ _ g3;rw[I6 lD,Ak b.C0 rfl (v:=cs) rfl]
  try simp only[Aa,Ar]
  rw[I6 l3,Cd g3 rfl (Ai el)]
  try simp only[Aa,Ar]
  rw[Wq (v:=.agg e.cells) rfl (by simp) (show((EV.agg e.cells).cells).length=68 from el),Aq];have x6:Ext h2 (h2.new (.cells (EV.agg e.cells).cells 34)):=Aw.new _ _;have g6:(h2.new (.cells (EV.agg e.cells).cells 34)).get h2.next=some (.cells e.cells 34):=Ad _ _
  have n6:(h2.new (.cells (EV.agg e.cells).cells 34)).next=h2.next+1:=rfl
  generalize (h2.new (.cells (EV.agg e.cells).cells 34))=t at x6 g6 n6⊢;have ae:=x6.hb a;have af:=b.Fl.frame (h':=t.lift) fun y=>by rw[Bv];exact x6.get _ (a _ _ (b.Fl.block y)) id
  obtain⟨ag,e7,r7,n7,c7⟩:=Boc (i:=i) af hwf.wf w (by rw[Bv];exact g6) hi a_;have call:Ag TT disp K (e'+1) false 89 [cs,I i,.slice h2.next 0 1 1 false] t.lift=some (.slice t.lift.next 0 (S.ev.length+1) (S.ev.length+1) true,ag):=by
   rw[w7 aw];exact e7
  refine Ok.bC (S:=fun k=>0<S.ev.length/\k=qc) (P:=fun v h'=>v=.slice t.lift.next 0 (S.ev.length+1) (S.ev.length+1) true/\h'=ag) ⟨_,_,call,rfl,rfl⟩ (fun _ _ p=>by rw[p.2];exact c7) ?_;rintro _ _ U s' ⟨rfl,rfl⟩ sm Z a1;have aa:=Z.hb ae;have r7:=r7.frame (h':=U) fun _=>sm.get _
  have a5:0<S.ev.length->D≠qc:=fun y e=>by
   have:=b.Fl.block y;rw[<-e,b.C0]at this;cases this
  have gD:=Z.at ae (x6.at a b.C0) fun y=>a5 y.1 y.2
  have a6:=aa _ _ gD
  try simp only[Aa,Ar]
  rw[Hc (by rcases a1 with rfl|⟨w,rfl,_⟩<;>kernel_rfl)];refine Ok.Z7 gD rfl rfl (by show 1<4;decide) ?_;have l6:t.lift.next=t.next:=rfl
  rw[l6]at r7 n7;have b7:U.next=t.next+1:=by rw[sm.next,n7]
  have l7:=aa _ _ (r7.block a_);have p8:Aw (fun j=>j=D) U (U.put D (.cells ([EV.ptr V 0,cs,hs,.map M].set 1 (.slice t.lift.next 0 (S.ev.length+1) (S.ev.length+1) true)) 118)):=(Aw.refl (S:=fun j=>j=D) U).Ao (.inl rfl) a6 _;have aj:(U.put D (.cells ([EV.ptr V 0,cs,hs,.map M].set 1 (.slice t.lift.next 0 (S.ev.length+1) (S.ev.length+1) true)) 118)).get D=some (.cells [.ptr V 0,.slice t.next 0 (S.ev.length+1) (S.ev.length+1) true,hs,.map M] 118):=Af _ _ _;have al:=p8.hb aa;generalize U.put D _=h8 at p8 aj al⊢;have J:Aw (fun k=>k=D\/(0<S.ev.length/\k=qc)) h2 h8:=((Ext.to x6).trans (Z.mono fun k u=>.inr u)).trans (p8.mono fun k u=>.inl u);have t1:=C.next
  have t2:=x6.next
  have t3:=J.next
  have ao:Aw G h h8:=C.to.then J fun k u hl=>by
   rcases u with rfl|⟨y,rfl⟩
   ·exact b.sub.2.1
   ·exact b.sub.2.2.2.1 y
  have Hb:∀k o,h2.get k=some o->k≠D->(0<S.ev.length->k≠qc)->h8.get k=some o:=fun k o g n1 n2=>J.at a g fun y=>y.elim n1 fun z=>n2 z.1 z.2
  have aq:(S.ev.take i++[e]++S.ev.drop i).length=S.ev.length+1:=by
   simp only[aE,bH,aU,List.length_singleton];omega
  have a7:¬t.next=D:=a_
  have Gl:∀k,G k->k<t.next:=fun k u=>by have:=s.lt k u;omega
  refine .ret ⟨S.ev.take i++[e]++S.ev.drop i,.inr ⟨i,rfl⟩,a_,⟨Bg.lt s.lt ao.next,⟨by show(S.ev.take i++[e]++S.ev.drop i).length+S.Qc.length<=200;omega,fun x T=>?_,hwf.hwf⟩,V,M,t.next,qh,.slice t.next 0 (S.ev.length+1) (S.ev.length+1) true,hs,ms,F,?_⟩,ao,al⟩
  ·rcases bO.1 T with T|T
   ·rcases bO.1 T with T|T
    ·exact hwf.wf x (bS T)
    ·rw[aP.1 T];exact w
   ·exact hwf.wf x (aG T)
  ·refine⟨aj,?_,b.marks,?_,?_,?_,⟨fun k u=>.inl (b.sub.1 k u),.inl b.sub.2.1,.inl b.sub.2.2.1,fun _=>.inr ⟨a_,by have:=p8.next;omega⟩,fun y=>.inl (b.sub.2.2.2.2 y)⟩,⟨b.apart.1,b.apart.2.1,fun _ y=>by have:=Gl _ (b.sub.1 _ y);omega,b.apart.2.2.2.1,fun _ y=>by have:=Gl _ (b.sub.2.2.2.2 y);omega⟩⟩
   ·refine Hb _ _ b.map (fun y=>?_) fun y z=>?_
    ·rw[y]at b;have:=b.map;rw[b.C0]at this;cases this
    ·have h1:=b.Fl.block y;rw[<-z,b.map]at h1;cases h1
   ·show Bu h8 _ t.next 34 68 (S.ev.take i++[e]++S.ev.drop i).length _
    rw[aq];exact r7.frame fun _=>p8.get _ l7 a7
   ·refine b.Ap6.frame fun y=>?_
    have g:=b.Ap6.block y;rw[Hb _ _ g (fun z=>?_) fun z1 z2=>b.apart.2.2.2.2 z1 y z2.symm,g];rw[z,b.C0]at g;cases g
   ·refine b.dev.frame J.next fun k u=>J.get k (b.dev.lt k u) fun z=>?_
    rcases z with rfl|⟨z1,rfl⟩
    ·exact b.apart.1 u
    ·exact b.apart.2.2.1 z1 u
theorem vo{v1:Nat}(a:h.get v1=some (.cells o.cells 36))(k:EV->R):Et (.ptr v1 0) h k=k (I o.kind)/\Et (.ptr v1 1) h k=k (I o.x)/\Et (.ptr v1 2) h k=k (I o.y)/\Et (.ptr v1 3) h k=k o.bl:=⟨Ak a rfl rfl,Ak a rfl rfl,Ak a rfl rfl,Ak a rfl rfl⟩
theorem Brz(w:o.ev.Wf):Ke o.cells 4 68=some o.ev.cells:=by
 have e:o.cells = [I o.kind,I o.x,I o.y,o.bl]++o.ev.cells:=rfl;rw[e,E4 (by rw[aE,Le.Ay w];exact aD _),show(4:Nat) = [I o.kind,I o.x,I o.y,o.bl].length from rfl,dN,<-Le.Ay w,cF]
def Mi.evs(S:Mi):Nat:=S.dr.ev.length+S.dr.Qc.length
structure sA(h h':Ab)(B:Cb)(X:Co)(F:Nat->Prop)(Y:Co):Prop where
 C:Ex h' B Y F
 k:Kf F h h'
 g:Y.S.g=X.S.g
 ev:Y.S.evs<=X.S.evs+1
theorem Gr.vp{X:Co}(c:Gr h h' B X F Y):sA h h' B X F Y:=⟨c.C,c.k,c.ck.g,by show Y.S.dr.ev.length+Y.S.dr.Qc.length<=_;rw[c.ck.dr.ev];exact fK _⟩
theorem Bme(A:Ca disp)(nH:disp 89=some nG)(hK:10000<K)(M:C8 h m S F)(hb:HB h)(w:e.Wf)(J:S.evs<=199):
 ∃D,Bm K (.ptr m 0) h=some (.ptr D 0,h)/\∀{d:Nat},2<=d->Ok (Ag TT disp K d false 50 [.ptr D 0,.agg e.cells] h) fun _ h'=>∃l:List Le,(l=S.dr.ev\/∃n,l=S.dr.ev.take n++[e]++S.dr.ev.drop n)/\l.length<=S.dr.ev.length+1/\C8 h' m { S with dr:={ S.dr with ev:=l } } F/\Kf F h h'/\HB h':=by
 obtain⟨lt,D,p,bl,ql,np,q,c,G,a⟩:=M.s;refine⟨D,Vq a.Jb,fun hd=>?_⟩;refine(Baz A nH hK hd a.drv hb w J).mono ?_;rintro _ h' ⟨l,t,u,T,U,C⟩;obtain⟨V,Z⟩:=M.drv hb a T U;exact⟨l,t,u,V,Z,C⟩
theorem Ex.Boj{X:Co}(C:Ex h B X F){l:List Le}(t:l.length<=X.S.dr.ev.length+1)(p:C8 h' B.m { X.S with dr:={ X.S.dr with ev:=l } } (B.fr F))(k:Kf (B.fr F) h h')(a:HB h'):sA h h' B X F { X with S:={ X.S with dr:={ X.S.dr with ev:=l } } }:=by
 refine⟨⟨p,k.at C.hb C.core (.inr (.inl rfl)),k.at C.hb C.ar (.inr (.inr (.inl rfl))),?_,⟨C.wf.rt,C.wf.an.of rfl,C.wf.sz⟩,C.out,a⟩,k.less fun _=>.inl,rfl,?_⟩
 ·exact C.map.frame (k.get _ (C.hb _ _ C.map.map) fun y=>y (.inr (.inr (.inr (.inl rfl))))) (k.get _ (C.hb _ _ C.map.row) fun y=>y (.inr (.inr (.inr (.inr (.inl rfl)))))) (k.get _ (C.hb _ _ C.map.live) fun y=>y (.inr (.inr (.inr (.inr (.inr rfl))))))
 ·show l.length+X.S.dr.Qc.length<=X.S.dr.ev.length+X.S.dr.Qc.length+1
  omega
theorem Bp4(A:Ca disp)(nH:disp 89=some nG)(hK:3000000<K){X:Co}(C:Ex h B X F)(O:o.At h)(T:o.bs.length<=1048576)(fq:0<o.bs.length->F o.bq)(hv:X.S.evs<=199)(rx:Vv o.x)(hd:31<=d):
 Ok (Ag TT disp K d false 9 [.agg o.cells,.ptr B.c 0] h) fun v h'=>∃(e:Int) (Y:Co),v=I e/\sA h h' B X F Y:=by
 obtain⟨e,rfl⟩:=d_ d;rw[Ajp A a_];simp only[JR,Aa];have ol:=Zf.len O.ev;obtain⟨t,U,x1,u,n1⟩:=nW h (.cells o.cells 36);rw[U];have c1:=C.gU x1;have e0:∀k:EV->R,Et (.ptr h.next 0) t k=k (I o.kind):=fun k=>(vo u k).1
 have e1:∀k:EV->R,Et (.ptr h.next 1) t k=k (I o.x):=fun k=>(vo u k).2.1
 have e2:∀k:EV->R,Et (.ptr h.next 2) t k=k (I o.y):=fun k=>(vo u k).2.2.1
 have fin:∀{x:R},Gy x t B X F->Ok (Al x fun v h=>some (v,h)) fun v h'=>∃(e:Int) (Y:Co),v=I e/\sA h h' B X F Y:=fun a=>by
  refine Ok.Al a ?_;rintro _ h' ⟨e,Y,rfl,c⟩;exact .ret ⟨e,Y,rfl,(c1.trans c).vp⟩
 rw[e0];simp only[I,Ac];by_cases k1:o.kind=1
 ·simp only[k1,aB,Aa]
  rw[Cd u rfl (Ai ol)];simp only[Ox,Aa];obtain⟨h2,U,V,g2,n2⟩:=nW t (.cells o.cells 36);rw[U];have Z:=V.hb c1.hb;rw[(vo g2 _).2.2.2];have R1:=O.row.frame (h':=h2) fun y=>by
   have l:=C.M.lt _ (.inl (fq y));rw[V.get _ a_ id,x1.get _ l id]
  rw[R1.Fz];refine Ok.Al (A8x (K:=K) a_ T K 0 h2 .An 0 a_ a_ Z (Aw.refl h2) g2 a_ (fun y=>by have l:=C.M.lt _ (.inl (fq y));omega) R1 (Bu.nil _ _ _ _) (fun y=>by omega)) ?_;rintro v h3 ⟨q,W,x3,a5,lq⟩;have J:=V.trans x3;have C3:Ex h3 B X (fun i=>F i\/(0<(kL o.x o.bs).length/\i=q)):=(c1.C.ext J).less fun i hi=>by
   rcases hi with hi|⟨y,rfl⟩
   ·exact .inl hi
   ·rw[pz]at y
    have:=lq y;exact .inr ⟨a_,this.2⟩
  refine Ok.Al (Γ A hK (F:=fun i=>F i\/(0<(kL o.x o.bs).length/\i=q)) (fun y=>.inr ⟨y,rfl⟩) (by rw[pz];omega) (d:=e) a_ C3 W) ?_;rintro _ h4 ⟨e4,Y,rfl,c4⟩;have c4:=c4.less (F:=F) fun i=>.inl
  exact .ret ⟨e4,Y,rfl,((c1.trans (c1.C.gU J)).trans c4).vp⟩
 simp only[k1,aA,Aa];by_cases k2:o.kind=2
 ·simp only[k2,aB,Aa]
  rw[e1,e2];exact fin (Θ A a_ c1.C (d:=e) a_ _ _)
 simp only[k2,aA,Aa];by_cases k3:o.kind=3
 ·simp only[k3,aB,Aa]
  rw[e1];refine Ok.Al (Ν A a_ c1.C (d:=e) a_ _) ?_;rintro _ h2 ⟨bl,e4,Y,rfl,ad,c2⟩;simp only[Aa];refine Ok.mk (by simp) (by rw[Bf,ad]) fun h3 x3 _ _=>?_
  have c2:=c1.trans c2;exact .ret ⟨e4,Y,rfl,(c2.trans (c2.C.gU x3)).vp⟩
 simp only[k3,aA,Aa];by_cases k4:o.kind=4
 ·simp only[k4,aB,Aa]
  rw[e1];exact fin (GP A a_ c1.C (d:=e) a_ _)
 simp only[k4,aA,Aa];by_cases k5:o.kind=5
 ·simp only[k5,aB,Aa]
  exact fin (Λ A a_ c1.C (d:=e) a_)
 simp only[k5,aA,Aa];by_cases k6:o.kind=6
 ·simp only[k6,aB,Aa]
  exact fin (tw A a_ c1.C (d:=e))
 simp only[k6,aA,Aa];by_cases k7:o.kind=7
 ·simp only[k7,aB,Aa]
  rw[e1];exact fin (FC A a_ c1.C (d:=e) a_ rx)
 simp only[k7,aA,Aa];by_cases k8:o.kind=8
 ·simp only[k8,aB,Aa]
  rw[e1];exact fin (FO A a_ c1.C (d:=e) a_ _)
 simp only[k8,aA,Aa];by_cases k9:o.kind=9
 ·simp only[k9,aB,Aa,Ar]
  have l1:=c1.hb _ _ u;rw[lS (v:=.ptr B.m 0) (by simp only[Hq,Aa];rw[c1.C.lift.hH])];obtain⟨D,dd,dp⟩:=Bme (K:=K) A nH a_ c1.C.lift.M c1.C.lift.hb O.ev hv;rw[lS dd]
  try simp only[Aa,Ar]
  rw[I6 (show h.next<t.next from a_),Cd u rfl (Brz O.ev)]
  try simp only[Aa,Ar]
  refine Ok.bC (S:=fun i=>¬B.fr F i) (dp (d:=e) a_) (fun _ _ p=>by obtain⟨_,_,_,_,a,_⟩:=p;exact a) ?_;rintro _ a8 h2 s' ⟨l,ba,T,M',_,ae⟩ sm ch bj;simp only[Pk,dr];have p:=c1.C.Boj T (M'.same sm) ch (sm.hb ae);exact .ret ⟨0,_,rfl,p.C,c1.k.trans p.k,p.g,p.ev⟩
 simp only[k9,aA,Aa,Pk];exact .ret ⟨0,X,rfl,c1.vp⟩
theorem SF:TT.size 87=some 6/\TT.agg 87=some true:=⟨by kernel_rfl,by kernel_rfl⟩
def jK(l:List Nat):Me:=⟨Lx (l.take 1),Lx ((l.drop 1).take 2),Lx ((l.drop (1+2)).take 2),Lx ((l.drop (1+2+2)).take 1),Lx ((l.drop (1+2+2+1)).take 6),Lx ((l.drop (1+2+2+1+6)).take 4)⟩
theorem Bki(s:Sm g){x:Me}(h:meR g x=true)(r:List Nat):jK (jB x++r)=x:=by
 obtain⟨⟨a,b1⟩,⟨a2,b2⟩,⟨a3,b3⟩,⟨a4,b4⟩,⟨p,t⟩,u,C⟩:=wc s h;unfold jK jB;simp only[<-cK,bQ,oU (C9 _ _),oV (C9 _ _)];rw[Ih (w:=1) a b1 c_,Ih (w:=2) a2 b2 c_,Ih (w:=2) a3 b3 c_,Ih (w:=1) a4 b4 c_,Ih (w:=6) p t c_,Ih (w:=4) u C c_]
theorem A69(hK:10000<K){R:Nat}{l:List Nat}(d:Rd h R q off l)(hb:HB h)(hn:16<=l.length)(hl:∀b∈l,b<256):
 Ok (tW K (.ptr R 0) h) fun v h'=>v=.agg (jK l).cells/\Rd h' R q (off+16) (l.drop 16)/\Aw (fun i=>i=R) h h'/\HB h':=by
 have lR:R<h.next:=by obtain⟨s,g,_⟩:=d.Ly;exact hb _ _ g
 simp only[tW,Aa];obtain⟨h1,e_,x1,g1,n1⟩:=nW h (.cells [EV.int .i64 0,.int .i64 0,.int .i64 0,.int .i64 0,.int .i64 0,.int .i64 0] 87);rw[e_];have J:=x1.hb hb;refine(Lk (K:=K) (d.ext hb x1) J a_ (w:=1) a_ a_ a_ hl).Al ?_;rintro _ h2 ⟨rfl,d2,c2,ab⟩;generalize e1:Lx (l.take 1)=a;have cG:=c2.at J g1 (by show ¬_=R;omega);have t2:=c2.next
 rw[Ax (l:=[Nk .i64 a,I 0,I 0,I 0,I 0,I 0]) rfl];refine Ok.mk rfl rfl fun h3 x3 g3 _=>?_
 have ad:=x3.hb ab;have p:∀k,∀b∈l.drop k,b<256:=fun k b hb=>hl b (aG hb)
 refine(Lk (K:=K) (d2.ext ab x3) ad a_ (w:=2) a_ a_ (by rw[aU];omega) (p 1)).Al ?_;rintro _ h4 ⟨rfl,d4,c4,ae⟩;generalize e2:Lx ((l.drop 1).take 2)=a2;rw[cK]at d4;refine(Lk (K:=K) d4 ae a_ (w:=2) a_ a_ (by rw[aU];omega) (p _)).Al ?_;rintro _ h5 ⟨rfl,d5,c5,af⟩;generalize e3:Lx ((l.drop (1+2)).take 2)=a3;rw[cK]at d5;refine(Lk (K:=K) d5 af a_ (w:=1) a_ a_ (by rw[aU];omega) (p _)).Al ?_;rintro _ h6 ⟨rfl,d6,c6,ag⟩;rw[cK]at d6;generalize e4:Lx ((l.drop (1+2+2)).take 1)=a4;have qR:=d.ne;have ah:=c6.at af (c5.at ae (c4.at ad g3 (by show ¬_=R;omega)) (by show ¬_=R;omega)) (by show ¬_=R;omega);have a8:Aw (fun i=>i=R) h1 h6:=(((c2.trans (Ext.to x3)).trans c4).trans c5).trans c6;have w6:=ag _ _ ah;have put:∀{M:Ab} {C:Nat} {lx:List Nat} (o:Ds),HB M->h2.next<M.next->Aw (fun i=>i=R) h1 M->Rd M R q C lx->HB (M.put h2.next o)/\Aw (fun i=>i=R) h1 (M.put h2.next o)/\Rd (M.put h2.next o) R q C lx:=fun o b w c d=>by
  have t:=c.next
  refine⟨b.put w _,c.Ao (.inr a_) w _,d.chg b (S:=fun i=>i=h2.next) (Aw.Ao (S:=fun i=>i=h2.next) (Aw.refl _) (.inl rfl) w _) (by show ¬_=_;omega) (by show ¬_=_;omega)⟩
 refine Ok.st [Nk .i64 a,Nk .i64 a2,I 0,I 0,I 0,I 0] ah rfl rfl rfl ?_;obtain⟨T,ai,d7⟩:=put (.cells [Nk .i64 a,Nk .i64 a2,I 0,I 0,I 0,I 0] 87) ag w6 a8 d6;have g7:(h6.put h2.next (.cells [Nk .i64 a,Nk .i64 a2,I 0,I 0,I 0,I 0] 87)).get h2.next=_:=Af _ _ _
 generalize h6.put h2.next (.cells [Nk .i64 a,Nk .i64 a2,I 0,I 0,I 0,I 0] 87)=h7 at T ai d7 g7⊢
 refine Ok.st [Nk .i64 a,Nk .i64 a2,Nk .i64 a3,I 0,I 0,I 0] g7 rfl rfl rfl ?_;obtain⟨U,aj,d8⟩:=put (.cells [Nk .i64 a,Nk .i64 a2,Nk .i64 a3,I 0,I 0,I 0] 87) T (T _ _ g7) ai d7;have g8:(h7.put h2.next (.cells [Nk .i64 a,Nk .i64 a2,Nk .i64 a3,I 0,I 0,I 0] 87)).get h2.next=_:=Af _ _ _
 generalize h7.put h2.next (.cells [Nk .i64 a,Nk .i64 a2,Nk .i64 a3,I 0,I 0,I 0] 87)=h8 at U aj d8 g8⊢
 refine Ok.st [Nk .i64 a,Nk .i64 a2,Nk .i64 a3,Nk .i64 a4,I 0,I 0] g8 rfl rfl rfl ?_;obtain⟨V,al,d9⟩:=put (.cells [Nk .i64 a,Nk .i64 a2,Nk .i64 a3,Nk .i64 a4,I 0,I 0] 87) U (U _ _ g8) aj d8;have g9:(h8.put h2.next (.cells [Nk .i64 a,Nk .i64 a2,Nk .i64 a3,Nk .i64 a4,I 0,I 0] 87)).get h2.next=_:=Af _ _ _
 generalize h8.put h2.next (.cells [Nk .i64 a,Nk .i64 a2,Nk .i64 a3,Nk .i64 a4,I 0,I 0] 87)=h9 at V al d9 g9⊢
 refine(Lk (K:=K) d9 V a_ (w:=6) a_ a_ (by rw[aU];omega) (p _)).Al ?_;rintro _ hA ⟨rfl,dA,cA,ao⟩;rw[cK]at dA;generalize e5:Lx ((l.drop (1+2+2+1)).take 6)=D;refine(Lk (K:=K) dA ao a_ (w:=4) a_ a_ (by rw[aU];omega) (p _)).Al ?_;rintro _ hB ⟨rfl,dB,cB,aq⟩;rw[cK]at dB;generalize e6:Lx ((l.drop (1+2+2+1+6)).take 4)=a6;have gB:=cB.at ao (cA.at V g9 (by show ¬_=R;omega)) (by show ¬_=R;omega);have bf:=(al.trans cA).trans cB;refine Ok.st [Nk .i64 a,Nk .i64 a2,Nk .i64 a3,Nk .i64 a4,Nk .i64 D,I 0] gB rfl rfl rfl ?_;obtain⟨Z,au,dC⟩:=put (.cells [Nk .i64 a,Nk .i64 a2,Nk .i64 a3,Nk .i64 a4,Nk .i64 D,I 0] 87) aq (aq _ _ gB) bf dB;have gC:(hB.put h2.next (.cells [Nk .i64 a,Nk .i64 a2,Nk .i64 a3,Nk .i64 a4,Nk .i64 D,I 0] 87)).get h2.next=_:=Af _ _ _
 generalize hB.put h2.next (.cells [Nk .i64 a,Nk .i64 a2,Nk .i64 a3,Nk .i64 a4,Nk .i64 D,I 0] 87)=hC at Z au dC gC⊢
 refine Ok.st [Nk .i64 a,Nk .i64 a2,Nk .i64 a3,Nk .i64 a4,Nk .i64 D,Nk .i64 a6] gC rfl rfl rfl ?_;obtain⟨u,aa,dD⟩:=put (.cells [Nk .i64 a,Nk .i64 a2,Nk .i64 a3,Nk .i64 a4,Nk .i64 D,Nk .i64 a6] 87) Z (Z _ _ gC) au dC;have gD:(hC.put h2.next (.cells [Nk .i64 a,Nk .i64 a2,Nk .i64 a3,Nk .i64 a4,Nk .i64 D,Nk .i64 a6] 87)).get h2.next=_:=Af _ _ _
 generalize hC.put h2.next (.cells [Nk .i64 a,Nk .i64 a2,Nk .i64 a3,Nk .i64 a4,Nk .i64 D,Nk .i64 a6] 87)=hD at u aa dD gD⊢
 rw[Cd gD rfl (Ai (n:=6) rfl)];have gv:=aa.at J g1 (by show ¬_=R;omega);have lv:=u _ _ gv;refine Ok.j4 gv rfl rfl ?_;rw[Rb (Af _ _ _) SF.1 SF.2 rfl];refine .ret ⟨by unfold jK;rw[e1,e2,e3,e4,e5,e6];rfl,?_,?_,u.put lv _⟩
 ·have e:off+1+2+2+1+6+4=off+16:=a_
  rw[<-e];exact dD.chg u (S:=fun i=>i=h.next) (Aw.Ao (S:=fun i=>i=h.next) (Aw.refl _) (.inl rfl) lv _) (by show ¬_=_;omega) (by show ¬_=_;omega)
 ·exact((Ext.to x1:Aw (fun i=>i=R) h h1).trans aa).Ao (.inr (aD _)) lv _
theorem Rd.SG{R:Nat}{l:List Nat}(d:Rd h R q off l):Rd h.lift R q off l:=by
 obtain⟨s,g,e,f⟩:=d.Ly;exact⟨⟨s,by rw[Bv];exact g,e,fun y=>⟨(f y).1,(f y).2.lift⟩⟩,d.ne⟩
theorem Rd.SH{R:Nat}{l:List Nat}(d:Rd h R q off l)(sm:iG h h'):Rd h' R q off l:=by
 obtain⟨s,g,e,f⟩:=d.Ly;exact⟨⟨s,by rw[sm.get];exact g,e,fun y=>⟨(f y).1,(f y).2.frame (sm.get _)⟩⟩,d.ne⟩
theorem Bsy {k:Nat}{l:List Nat}(h:16*(2-k)<=l.length)(a:k<2):16*(2-(k+1))<=(l.drop 16).length:=by rw[aU];omega
theorem Bks {l:List Nat}(h:∀b∈l,b<256):Vv (jK l).Am/\Vv (jK l).Bw:=by
 have b:∀k,Lx ((l.drop k).take 2)<65536:=fun k=>by
  have a:=vq ((l.drop k).take 2) fun b hb=>h b (aG (bS hb))
  have h2:256^((l.drop k).take 2).length<=256^2:=eZ c_ (by rw[bH];omega);exact aL a h2
 have b1:=b 1;have b2:=b (1+2);exact⟨⟨by show _<=((Lx _:Nat):Int);omega,by show((Lx _:Nat):Int)<=_;omega⟩,⟨by show _<=((Lx _:Nat):Int);omega,by show((Lx _:Nat):Int)<=_;omega⟩⟩
def kF(g:Gm)(f:Int):Nat->Nat->List Nat->List Me->List Me × Int
 | 0,_,_,es=>(es,0)
 | n+1,k,l,es=>if g.B<=2*(f-1)+k then(es,0)else if(jY g es (2*(f-1)+k) (jK l)).2=0 then kF g f n (k+1) (l.drop 16) (jY g es (2*(f-1)+k) (jK l)).1 else jY g es (2*(f-1)+k) (jK l)
theorem Bdd(hK:10000<K)(sm:Sm g){R v2 v3 ll N:Nat}{x y z:EV}(w:f.Wf)(fo:1<=f.off/\f.off<=4294967296)(nR:N<=R)(nl:b≠R/\ml≠R/\ll≠R/\v2≠R/\v3<R/\v2≠ml/\v2≠ll/\v3≠ml/\v3≠ll/\q≠ml/\q≠ll):
 ∀(n k off:Nat) (h:Ab) (l:List Nat) (es:List Me),2-k<n->k<=2->HB h->N<=h.next->K7 h b ml ll g es->h.get v2=some (.cells [x,y,z,.ptr b 0] 58)->h.get v3=some (.cells f.cells 136)->Rd h R q off l->16*(2-k)<=l.length->(∀b∈l,b<256) ->
 Ok (Y8 K n (.ptr v2 0) (.ptr v3 0) (.ptr R 0) (I k) h) fun v h'=>v=I (kF g f.off (2-k) k l es).2/\K7 h' b ml ll g (kF g f.off (2-k) k l es).1/\Aw (fun i=>i=R\/i=ml\/i=ll) h h'/\HB h':=by
 intro n;induction n with
 | zero=>intro k off h l es hn;omega
 | succ n ih=>
  intro k off h l es hn hk hb hN m g2 g3 d hl hu;rw[Y8];simp only[I,Ac];by_cases T:k<2
  case neg=>
   have:decide ((k:Int)<2)=false:=by simp;omega
   simp only[this,Aa,tX];have:k=2:=a_
   subst this;exact .ret ⟨rfl,m,Aw.refl _,hb⟩
  have n7:2-(k+1)<n:=a_
  have:decide ((k:Int)<2)=true:=by simp;omega
  simp only[this,Aa,NH,Ar];refine Ok.bC (S:=fun i=>i=R) (A69 (K:=K) hK d.SG (Cz hb) a_ hu) (fun _ _ p=>p.2.2.1) ?_;rintro _ U h2 s' ⟨rfl,d1,c1,ai⟩ V M Z;have rg:=Bks hu;obtain⟨n',aj⟩:∃n',2-k=n'+1:=⟨1-k,a_⟩;have al:2-(k+1)=n':=a_
  have eG:kF g f.off (2-k) k l es=if g.B<=2*(f.off-1)+k then(es,0)else if(jY g es (2*(f.off-1)+k) (jK l)).2=0 then kF g f.off n' (k+1) (l.drop 16) (jY g es (2*(f.off-1)+k) (jK l)).1 else jY g es (2*(f.off-1)+k) (jK l):=by rw[aj];rfl
  rw[eG];have lR:R<h.next:=by obtain⟨s,g,_⟩:=d.Ly;exact hb _ _ g
  have mw:R<=U.mw:=c1.mw R (Nat.le_of_lt lR) (Nat.le_of_lt lR) fun i hi=>by subst hi;exact aD _
  have ao:=nl.2.2.2.2.1;have a:=V.hb ai;have d2:Rd h2 R q (off+16) (l.drop 16):=d1.SH V;have l3:=hb _ _ g3;have C:=M.at hb g2 nl.2.2.2.1;have D:=M.at hb g3 (Nat.ne_of_lt ao);have m2:=m.frame (M.get _ (hb _ _ m.map) nl.1) (M.get _ (hb _ _ m.row) nl.2.1) (M.get _ (hb _ _ m.live) nl.2.2.1);rw[Cj l3 (by
   rcases Z with rfl|⟨w,rfl,rfl⟩
   ·kernel_rfl
   ·show Bb (Nat.ble (Nat.succ v3) U.mw) true false=true
    rw[aM a_];rfl),Ak D rfl (v:=I f.off) rfl]
  simp only[I,Ac];have w1:Cs .i64 (f.off-1)=f.off-1:=Ci;have w2:Cs .i64 (2*(f.off-1))=2*(f.off-1):=Ci;have w3:Cs .i64 (2*(f.off-1)+(k:Int))=2*(f.off-1)+(k:Int):=Ci;rw[w1,w2,w3]
  try simp only[Aa,Ar]
  have hq:Nat.beq h2.next v3=false:=by
   cases hx:Nat.beq h2.next v3 with
   | false=>rfl
   | true=>have:=aJ hx;have:=a _ _ D;omega
  have aq:pC 259 h2.next ⟨s'.bg,(Nat.shiftLeft 1 8,h2.next)::s'.nw,(Nat.shiftLeft 1 3,v3)::s'.Cy,s'.lou,s'.st⟩=true:=by
   have e:pC 259 h2.next ⟨s'.bg,(Nat.shiftLeft 1 8,h2.next)::s'.nw,(Nat.shiftLeft 1 3,v3)::s'.Cy,s'.lou,s'.st⟩=Bb (Bb (Bb (Nat.beq h2.next v3) false true) true false) true false:=by
    rcases Z with rfl|⟨w,rfl,rfl⟩<;>kernel_rfl
   rw[e,hq];rfl
  rw[Hc aq];refine Ok.mk rfl rfl fun h3 x3 g7 _=>?_
  have aa:=x3.hb a;rw[Ak (x3.at a C) rfl (v:=.ptr b 0) rfl];have m3:=m2.ext fun i o p=>x3.at a p
  refine(P6 (K:=K) m3 aa).Al ?_;rintro _ h4 ⟨rfl,x4,u⟩;have t:Ext h2 h4:=x3.trans x4;have c4:Aw (fun i=>i=R\/i=ml\/i=ll) h h4:=(Aw.mono M fun i y=>.inl y).trans (Ext.to t);have m4:=m2.ext fun i o p=>t.at a p
  simp only[gV,gL,Aa,I,Ac];by_cases hB:g.B<=2*(f.off-1)+k
  ·rw[aQ (show 2*(f.off-1)+(k:Int)≥g.B from hB)]
   simp only[Aa,tX];rw[aN hB];exact .ret ⟨rfl,m4,c4,u⟩
  rw[aK hB];rw[aS (show ¬2*(f.off-1)+(k:Int)≥g.B from hB)];simp only[Aa,NG];rw[Ak (t.at a C) rfl (v:=.ptr b 0) rfl,Cd (x4.at aa g7) rfl (Ai (n:=6) rfl)];refine(zN (K:=K) sm m4 u (fun _=>rg) _).Al ?_;rintro _ h5 ⟨rfl,m5,c5,ab⟩;have J:Aw (fun i=>i=R\/i=ml\/i=ll) h h5:=c4.trans (c5.mono fun i y=>.inr y);simp only[I,Ac];by_cases h0:(jY g es (2*(f.off-1)+k) (jK l)).2=0
  case neg=>
   rw[aK h0];simp only[h0,aH,aB,Aa];exact .ret ⟨rfl,m5,J,ab⟩
  rw[aN h0];simp only[h0,aC,aA];simp only[Aa,NF,Ac];rw[Ci,show((k:Nat):Int)+1=((k+1:Nat):Int) from a_];obtain⟨a1,a2,a3,a4,a5,a6,a7,a8,a9,lG,au⟩:=nl;have aw:=c5.at u (t.at a C) (fun y=>y.elim a6 a7);have ax:=c5.at u (t.at a D) (fun y=>y.elim a8 a9);have d5:Rd h5 R q (off+16) (l.drop 16):=(d2.ext a t).chg u c5 (fun y=>y.elim lG au) (fun y=>y.elim (fun z=>a2 z.symm) fun z=>a3 z.symm);have t6:16*(2-(k+1))<=(l.drop 16).length:=Bsy hl T;have u6:∀b∈l.drop 16,b<256:=fun b hb=>hu b (aG hb)
  have n6:N<=h5.next:=by have:=J.next;omega
  have r:=ih (k+1) (off+16) h5 (l.drop 16) _ n7 T ab n6 m5 aw ax d5 t6 u6;rw[al]at r;refine r.mono ?_;rintro v h6 ⟨rfl,m6,c6,ay⟩;exact⟨rfl,m6,J.trans c6,ay⟩
theorem Baa(hK:10000<K)(sm:Sm g){ll:Nat}{x y z:EV}(m:K7 h b ml ll g es)(hb:HB h)(w:f.Wf)(fo:1<=f.off/\f.off<=255)(pl:x.plain=true/\y.plain=true/\z.plain=true):
 Ok (rG K (.agg [x,y,z,.ptr b 0]) (.agg f.cells) h) fun v h'=>v=I (kF g f.off 2 0 (f.body.drop 1) es).2/\K7 h' b ml ll g (kF g f.off 2 0 (f.body.drop 1) es).1/\Aw (fun i=>i=ml\/i=ll) h h'/\HB h':=by
 have fl:=Fr.Ay w;simp only[rG,Aa];rw[show(h.new (.cells [x,y,z,.ptr b 0] 58)).next=h.next+1 from rfl];have C:Ext h ((h.new (.cells [x,y,z,.ptr b 0] 58)).new (.cells f.cells 136)):=(Aw.new _ _).Da _;have T:((h.new (.cells [x,y,z,.ptr b 0] 58)).new (.cells f.cells 136)).get h.next=some (.cells [x,y,z,.ptr b 0] 58):=by rw[Az _ (aO _)];exact Ad _ _
 have D:((h.new (.cells [x,y,z,.ptr b 0] 58)).new (.cells f.cells 136)).get (h.next+1)=some (.cells f.cells 136):=Ad _ _;have U:((h.new (.cells [x,y,z,.ptr b 0] 58)).new (.cells f.cells 136)).next=h.next+2:=rfl
 generalize (h.new (.cells [x,y,z,.ptr b 0] 58)).new (.cells f.cells 136)=V at C T D U⊢;have a:=C.hb hb;rw[show ∀k:EV->R,Oa 44 1 (.ptr (h.next+1) 5) (some (.int .i64 1)) none none k=k (.slice (h.next+1) 6 43 43 false)from fun k=>rfl];have bl:(f.body.drop 1).length=43:=by rw[aU,w.len]
 have bs:Bs V (.slice (h.next+1) 6 43 43 false) (h.next+1) 6 (f.body.drop 1):=by
  refine⟨43,false,_,f.cells,by rw[bl],by rw[bl];omega,D,rfl,by rw[bl,fl];omega,?_⟩;show((Bh f.body).drop 1).take (f.body.drop 1).length=_;rw[bl];have e:(Bh f.body).drop 1=Bh (f.body.drop 1):=by unfold Bh;rw[List.map_drop]
  rw[e,<-bl,<-Bf (f.body.drop 1),cF]
 refine(vr (K:=K) bs a).Al ?_;rintro _ h2 ⟨R,q,rfl,d,J,t,lq⟩;have Z:=hb _ _ m.map;have aa:=hb _ _ m.row;have ab:=hb _ _ m.live;have lR:R<h2.next:=by obtain⟨s,g,_⟩:=d.Ly;exact t _ _ g
 have qR:=d.ne;have u:Ext h h2:=C.trans J
 try simp only[Aa]
 refine(Bdd hK sm (N:=h.next) w ⟨fo.1,a_⟩ a_ ⟨a_,a_,a_,a_,a_,a_,a_,a_,a_,a_,a_⟩ K 0 0 h2 _ _ a_ a_ t a_ (m.ext fun i o p=>u.at hb p) (J.at a T) (J.at a D) d a_ fun b hb=>w.u8 b (aG hb)).mono ?_;rintro v h3 ⟨rfl,m3,c3,M⟩;refine⟨rfl,m3,(Ext.to u:Aw (fun i=>i=ml\/i=ll) h h2).then c3 fun j hj ae=>?_,M⟩;rcases hj with rfl|hj
 ·omega
 ·exact hj
theorem Ok.Btu{s:DX}{call:Ab->R}{k:EV->Ab->DX->R}{P:EV->Ab->Prop}{S:Nat->Prop}(w0:Nat)(u:w0<=h.next)(hS:∀i,S i->w0<=i)(hb:Ab3 b s=true)(C:loose b s.nw = [])(hr:∀w,w0<=w->Tb b w s.Cy=true)(M:Ok (call h.lift) P)(he:∀v a,P v a->Aw S h.lift a)
 (D:∀v a h2 s',P v a->iG a h2->Aw S h h2->(s'=s.big i\/∃w,s'=s.iv i w/\w=a.mw)->Ok (k v h2 s') Q):Ok (Ev.Kw i b s h call k) Q:=by
 obtain⟨v,a,e,p⟩:=M;have x:=he v a p;have T:Ic b s h=h.lift:=by unfold Ic;rw[C];rfl
 have U:Ev.Kw i b s h call k=Mw i b s h a fun s h=>k v h s:=by
  show Bb (Ab3 b s) (Ev.Al (call (Ic b s h)) fun v h'=>Mw i b s h h' fun s h=>k v h s) none=_;rw[hb,Aj,T,e];rfl
 rw[U];unfold Mw;rw[C];have sm:∀w,iG a ⟨a.t,a.next,w⟩:=fun w=>⟨fun i=>by rw[iS,iS],rfl⟩
 have J:∀w i,i<h.next->¬S i->(⟨a.t,a.next,w⟩:Ab).get i=h.get i:=fun w i V hn=>by
  rw[(sm w).get,x.get i V hn,Bv]
 cases hle:Nat.ble h.next a.mw with
 | true=>
  rw[Aj];exact D v a _ _ p (sm _) ⟨J _,x.next,fun w w1 _ _=>w1,fun y=>(sm _).hb (x.hb (Cz y))⟩ (.inl rfl)
 | false=>
  rw[Bk,hr _ (x.mw w0 u u hS),Aj];refine D v a _ _ p (sm _) ⟨J _,x.next,fun w w1 w2 w3=>?_,fun y=>(sm _).hb (x.hb (Cz y))⟩ (.inr ⟨_,rfl,rfl⟩);have:=x.mw w w2 w2 w3;show w<=Bb (Nat.ble h.mw a.mw) h.mw a.mw;rw[Br];split<;>assumption
theorem ko:TT.size 58=some 4/\TT.agg 58=some true:=⟨by kernel_rfl,by kernel_rfl⟩
theorem A88(hr:rtB g=false)(hb:HB h):Ok (mM K (gV g) h) fun v h'=>v=.tuple [.Bz,I 20]/\Ext h h':=by
 simp only[mM,gV,Aa];obtain⟨a,p,t,u,D⟩:=nW h (.cells (gL g) 23);rw[p];rw[Cv u rfl,Ai (n:=6) rfl]
 try simp only[Aa]
 rw[show EV.agg (gL g)=gV g from rfl];refine(Vf (K:=K) g a).Al ?_;rintro _ h2 ⟨rfl,C⟩;simp only[hr,Aa];exact .ret ⟨rfl,t.trans C⟩
def A8p(l:List Nat):Int:=Int.ofNat (Lx (l.take 6))
def jL(l:List Nat):Gm:=⟨Int.ofNat (Lx ((l.drop 6).take 1)),Int.ofNat (Lx (((l.drop 6).drop 1).take 1)),Int.ofNat (Lx ((((l.drop 6).drop 1).drop 1).take 1)),Int.ofNat (Lx (((((l.drop 6).drop 1).drop 1).drop 1).take 2)),Int.ofNat (Lx ((((((l.drop 6).drop 1).drop 1).drop 1).drop 2).take 1)),Int.ofNat (Lx (((((((l.drop 6).drop 1).drop 1).drop 1).drop 2).drop 1).take 1))⟩
structure Brs(f:Fr)(g:Gm)(h:Ab)(v:EV)(h':Ab):Prop where
 yes:rtB g=true->∃p ml ll,v=.tuple [.agg [I f.seq,I f.As,I (A8p f.body),.ptr p 0],I 0]/\K7 h' p ml ll g (List.replicate g.B.toNat (Me.nil 0))/\h.next<=p/\h.next<=ml/\h.next<=ll
 no:rtB g=false->v=.tuple [.agg [I f.seq,I f.As,I (A8p f.body),.Bz],I 20]
 x:Ext h h'
 hb:HB h'
theorem A7c(hK:10000<K)(w:f.Wf)(hb:HB h):Ok (rF K (.agg f.cells) h) fun v h'=>Brs f (jL f.body) h v h':=by
 obtain⟨g,hg⟩:∃g,g=jL f.body:=⟨_,rfl⟩;rw[<-hg];have au:Nk .i64 (Lx (f.body.take 6))=I (A8p f.body)/\Nk .i64 (Lx ((f.body.drop 6).take 1))=I g.D/\Nk .i64 (Lx (((f.body.drop 6).drop 1).take 1))=I g.Z/\Nk .i64 (Lx ((((f.body.drop 6).drop 1).drop 1).take 1))=I g.S/\Nk .i64 (Lx (((((f.body.drop 6).drop 1).drop 1).drop 1).take 2))=I g.B/\Nk .i64 (Lx ((((((f.body.drop 6).drop 1).drop 1).drop 1).drop 2).take 1))=I g.P/\Nk .i64 (Lx (((((((f.body.drop 6).drop 1).drop 1).drop 1).drop 2).drop 1).take 1))=I g.O:=by
  subst hg;exact⟨rfl,rfl,rfl,rfl,rfl,rfl,rfl⟩
 obtain⟨s0,s1,s2,s3,s4,s5,s6⟩:=au;clear hg;have fl:=Fr.Ay w;simp only[rF,Aa];have x1:Ext h ((h.new (.cells f.cells 136)).new (.cells [.int .i64 0,.int .i64 0,.int .i64 0,.Bz] 58)):=(Aw.new _ _).Da _;have g1:((h.new (.cells f.cells 136)).new (.cells [.int .i64 0,.int .i64 0,.int .i64 0,.Bz] 58)).get h.next=some (.cells f.cells 136):=by
  rw[Az _ (aO _)];exact Ad _ _
 have g2:((h.new (.cells f.cells 136)).new (.cells [.int .i64 0,.int .i64 0,.int .i64 0,.Bz] 58)).get (h.next+1)=some (.cells [.int .i64 0,.int .i64 0,.int .i64 0,.Bz] 58):=Ad _ _;have n1:((h.new (.cells f.cells 136)).new (.cells [.int .i64 0,.int .i64 0,.int .i64 0,.Bz] 58)).next=h.next+2:=rfl
 rw[show(h.new (.cells f.cells 136)).next=h.next+1 from rfl];generalize (h.new (.cells f.cells 136)).new (.cells [.int .i64 0,.int .i64 0,.int .i64 0,.Bz] 58)=h1 at x1 g1 g2 n1⊢;have ag:=x1.hb hb;rw[show ∀k:EV->R,Oa 44 1 (.ptr h.next 5) none none none k=k (.slice h.next 5 44 44 false)from fun k=>rfl];have ul:(Bh f.body).length=44:=by rw[Bf,w.len]
 have bs:Bs h1 (.slice h.next 5 44 44 false) h.next 5 f.body:=by
  refine⟨44,false,_,f.cells,by rw[w.len],by rw[w.len];omega,g1,rfl,by rw[w.len,fl];omega,?_⟩;show(Bh f.body).take f.body.length=_;rw[w.len,<-ul,cF]
 refine(vr (K:=K) bs ag (by rw[w.len];omega) (by rw[w.len];omega)).Al ?_;rintro _ h5 ⟨V,q,rfl,d0,x5,ah,ea⟩;have ai:=x5.at ag g1;have bt:=x5.at ag g2;have aw:=ah _ _ ai;have eb:h.next+1<V:=by have:=d0.ne;omega
 have bu:Ext h h5:=x1.trans x5;have hu:=w.u8;have hl:=w.len;simp only[Aa,Ar];rw[I6 aw,Ak ai rfl (v:=I f.seq) rfl]
 try simp only[Aa,Ar]
 rw[I6 aw,Ak ai rfl (v:=I f.As) rfl]
 try simp only[Aa,Ar]
 refine Ok.Btu (S:=fun i=>i=V) (h.next+1) (by have:=x5.next;omega) (fun i hi=>by have hi:i=V:=hi;omega) (by kernel_rfl) (by kernel_rfl) (fun _ hw=>by
  simp only[Tb];rw[aM (show Nat.succ h.next<=_ from hw)];rfl) (Lk (K:=K) (w:=6) d0.SG (Cz ah) a_ c_ c_ a_ hu) (fun _ _ p=>p.2.2.1) ?_
 rintro _ ec h6 s' ⟨rfl,bw,_,az⟩ sm c6 bx;have aa:=sm.hb az;have d1:=bw.SH sm;have x6:Ext h h6:=bu.then c6 fun j hj bz=>by
  have hj:j=V:=hj;omega
 have b5:=c6.at ah bt (by show ¬h.next+1=V;omega);have up:∀{t hc:Ab},Ext h t->Aw (fun i=>i=V) t hc->Ext h hc:=fun x c=>x.then c fun j hj bz=>by
  have hj:j=V:=hj;omega
 have Hb:∀{t hc:Ab} {i:Nat} {o:Ds},Aw (fun i=>i=V) t hc->HB t->t.get i=some o->i≠V->hc.get i=some o:=fun c hb g hi=>c.at hb g hi
 have lR:V<h6.next:=by obtain⟨_,g,_⟩:=d1.Ly;exact aa _ _ g
 rw[s0];generalize hz:A8p f.body=z;rw[Ax (l:=[I f.seq,I f.As,I z,.Bz]) rfl]
 try simp only[Aa,Ar]
 rw[Hc (by rcases bx with rfl|⟨w,rfl,_⟩<;>kernel_rfl)];refine Ok.mk rfl rfl fun h7 x7 b6 n7=>?_
 have aj:=x7.hb aa;have d17:=d1.ext aa x7;have b7:=x7.at aa b5;have b8:Ext h h7:=x6.trans x7;have M:∀b∈f.body.drop 6,b<256:=fun b hb=>hu b (aG hb)
 refine(Lk (K:=K) (w:=1) d17 aj a_ c_ c_ (by simp only[aU];omega) M).Al ?_;rintro _ h8 ⟨rfl,d2,c8,al⟩;have cf:=Hb c8 aj b7 a_;have ch:=Hb c8 aj b6 a_;have x8:=up b8 c8;refine(Lk (K:=K) (w:=1) d2 al a_ c_ c_ (by simp only[aU];omega) (fun b hb=>M b (aG hb))).Al ?_;rintro _ h9 ⟨rfl,d3,c9,ao⟩;have cw:=Hb c9 al cf a_;have cx:=Hb c9 al ch a_;have x9:=up x8 c9;refine(Lk (K:=K) (w:=1) d3 ao a_ c_ c_ (by simp only[aU];omega) (fun b hb=>M b (aG (aG hb)))).Al ?_;rintro _ t ⟨rfl,d4,ca,T⟩;have cB:=Hb ca ao cw a_;have a5:=Hb ca ao cx a_;have xa:=up x9 ca;rw[s1,s2,s3];rw[Ax (l:=[I g.D,I g.Z,I g.S,.int .i64 0,.int .i64 0,.int .i64 0]) rfl]
 try simp only[Aa]
 refine Ok.mk rfl rfl fun hB xb cG _=>?_
 have ab:=xb.hb T;have ei:=T _ _ a5;have ej:V<t.next:=by obtain⟨_,g,_⟩:=d4.Ly;exact T _ _ g
 have c0:=xb.at T cB;have c5:=xb.at T a5;have c7:=d4.ext T xb;have da:Ext h hB:=xa.trans xb;refine(Lk (K:=K) (w:=2) c7 ab a_ c_ c_ (by simp only[aU];omega) (fun b hb=>M b (aG (aG (aG hb))))).Al ?_;rintro _ hc ⟨rfl,d5,cc,ad⟩;have db:=Hb cc ab c0 a_;have dc:=Hb cc ab c5 a_;have de:=Hb cc ab cG a_;have xc:=up da cc;refine(Lk (K:=K) (w:=1) d5 ad a_ c_ c_ (by simp only[aU];omega) (fun b hb=>M b (aG (aG (aG (aG hb)))))).Al ?_;rintro _ hd ⟨rfl,d6,cd,ae⟩;have df:=Hb cd ad db a_;have dg:=Hb cd ad dc a_;have di:=Hb cd ad de a_;have xd:=up xc cd;refine(Lk (K:=K) (w:=1) d6 ae a_ c_ c_ (by simp only[aU];omega) (fun b hb=>M b (aG (aG (aG (aG (aG hb))))))).Al ?_;rintro _ he ⟨rfl,d7,ce,dj⟩;have dm:=Hb ce ae df a_;have dp:=Hb ce ae dg a_;have a7:=Hb ce ae di a_;have xe:=up xd ce;rw[s4,s5,s6];have l6:=dj _ _ a7
 try simp only[Aa]
 refine Ok.Z7 a7 rfl rfl (by show 3<6;decide) ?_
 try simp only[Aa]
 refine Ok.Z7 (Af _ _ _) rfl rfl (by show 4<6;decide) ?_
 try simp only[Aa]
 refine Ok.Z7 (Af _ _ _) rfl rfl (by show 5<6;decide) ?_;have xf:Ext h (((he.put t.next (.cells ([I g.D,I g.Z,I g.S,.int .i64 0,.int .i64 0,.int .i64 0].set 3 (I g.B)) 23)).put t.next (.cells (([I g.D,I g.Z,I g.S,.int .i64 0,.int .i64 0,.int .i64 0].set 3 (I g.B)).set 4 (I g.P)) 23)).put t.next (.cells ((([I g.D,I g.Z,I g.S,.int .i64 0,.int .i64 0,.int .i64 0].set 3 (I g.B)).set 4 (I g.P)).set 5 (I g.O)) 23)):=((xe.Ao (.inr (by have:=xa.next;omega)) l6 _).Ao (.inr (by have:=xa.next;omega)) l6 _).Ao (.inr (by have:=xa.next;omega)) l6 _;have ba:(((he.put t.next (.cells ([I g.D,I g.Z,I g.S,.int .i64 0,.int .i64 0,.int .i64 0].set 3 (I g.B)) 23)).put t.next (.cells (([I g.D,I g.Z,I g.S,.int .i64 0,.int .i64 0,.int .i64 0].set 3 (I g.B)).set 4 (I g.P)) 23)).put t.next (.cells ((([I g.D,I g.Z,I g.S,.int .i64 0,.int .i64 0,.int .i64 0].set 3 (I g.B)).set 4 (I g.P)).set 5 (I g.O)) 23)).get t.next=some (.cells (gL ⟨g.D,g.Z,g.S,g.B,g.P,g.O⟩) 23):=Af _ _ _
 have u:(((he.put t.next (.cells ([I g.D,I g.Z,I g.S,.int .i64 0,.int .i64 0,.int .i64 0].set 3 (I g.B)) 23)).put t.next (.cells (([I g.D,I g.Z,I g.S,.int .i64 0,.int .i64 0,.int .i64 0].set 3 (I g.B)).set 4 (I g.P)) 23)).put t.next (.cells ((([I g.D,I g.Z,I g.S,.int .i64 0,.int .i64 0,.int .i64 0].set 3 (I g.B)).set 4 (I g.P)).set 5 (I g.O)) 23)).get (h.next+1)=some (.cells [.int .i64 0,.int .i64 0,.int .i64 0,.Bz] 58):=by
  rw[Ae _,Ae _,Ae _];exact dm
 have C:(((he.put t.next (.cells ([I g.D,I g.Z,I g.S,.int .i64 0,.int .i64 0,.int .i64 0].set 3 (I g.B)) 23)).put t.next (.cells (([I g.D,I g.Z,I g.S,.int .i64 0,.int .i64 0,.int .i64 0].set 3 (I g.B)).set 4 (I g.P)) 23)).put t.next (.cells ((([I g.D,I g.Z,I g.S,.int .i64 0,.int .i64 0,.int .i64 0].set 3 (I g.B)).set 4 (I g.P)).set 5 (I g.O)) 23)).get h6.next=some (.cells [I f.seq,I f.As,I z,.Bz] 58):=by
  rw[Ae _,Ae _,Ae _];exact dp
 generalize ((he.put t.next (.cells ([I g.D,I g.Z,I g.S,.int .i64 0,.int .i64 0,.int .i64 0].set 3 (I g.B)) 23)).put t.next (.cells (([I g.D,I g.Z,I g.S,.int .i64 0,.int .i64 0,.int .i64 0].set 3 (I g.B)).set 4 (I g.P)) 23)).put t.next (.cells ((([I g.D,I g.Z,I g.S,.int .i64 0,.int .i64 0,.int .i64 0].set 3 (I g.B)).set 4 (I g.P)).set 5 (I g.O)) 23)=hf at xf ba u C⊢
 have a:=xf.hb hb;rw[Cv ba rfl,Ai (n:=6) rfl];simp only[Aa];cases hr:rtB g with
 | false=>
  refine(A88 (K:=K) hr a).Al ?_;rintro _ hg ⟨rfl,U⟩;have J:=U.hb a;have l5:=J _ _ (U.at a C);have l2:=J _ _ (U.at a u)
  try simp only[Aa]
  refine Ok.Z7 (U.at a C) rfl rfl (by show 3<4;decide) ?_;rw[Cv (Af _ _ _) rfl,Ai (n:=4) rfl];simp only[Aa];have n6:=x6.next
  have q5:=a _ _ C;have q2:=a _ _ u;refine Ok.j4 (by rw[Ae _];exact U.at a u) rfl rfl ?_;rw[Du (Af _ _ _) ko.1 ko.2 rfl];exact .ret ⟨fun y=>(by rw[hr]at y;cases y),fun _=>(by rw[hz];rfl),((xf.trans U).Ao (.inr (by have:=x6.next;omega)) l5 _).Ao (.inr (fK _)) l2 _,(J.put l5 _).put l2 _⟩
 | true=>
 refine(HD (K:=K) hr a).Al ?_;rintro _ hg ⟨b,ml,ll,rfl,m,U,J,m1,m2,m3⟩;have l5:=J _ _ (U.at a C);have l2:=J _ _ (U.at a u);have lf:=xf.next
 try simp only[Aa]
 refine Ok.Z7 (U.at a C) rfl rfl (by show 3<4;decide) ?_;rw[Cv (Af _ _ _) rfl,Ai (n:=4) rfl];simp only[Aa];refine Ok.j4 (by rw[Ae _];exact U.at a u) rfl rfl ?_;rw[Du (Af _ _ _) ko.1 ko.2 rfl];have n6:=x6.next
 have lx:=U.next
 have q5:=a _ _ C;have q2:=a _ _ u;have go:∀i,hf.next<=i->((hg.put h6.next (.cells ([I f.seq,I f.As,I z,.Bz].set 3 (.ptr b 0)) 58)).put (h.next+1) (.cells ([I f.seq,I f.As,I z,.Bz].set 3 (.ptr b 0)) 58)).get i=hg.get i:=fun i hi=>by
  rw[Ae _ (show h.next+1≠i from a_),Ae _ (show h6.next≠i from a_)]
 exact .ret ⟨fun _=>⟨b,ml,ll,by rw[hz];rfl,m.frame (go b a_) (go ml a_) (go ll a_),a_,a_,a_⟩,fun y=>(by rw[hr]at y;cases y),((xf.trans U).Ao (.inr (by have:=x6.next;omega)) l5 _).Ao (.inr (fK _)) l2 _,(J.put l5 _).put l2 _⟩
theorem Bn7(g:Gm)(z:Int):∀b∈jr g z,b<256:=by
 unfold jr;simp only[List.forall_mem_append];exact⟨Jr _ _,Jr _ _,Jr _ _,Jr _ _,Jr _ _,Jr _ _,Jr _ _⟩
theorem Bs6(x:Me):∀b∈jB x,b<256:=by
 unfold jB;simp only[List.forall_mem_append];exact⟨Jr _ _,Jr _ _,Jr _ _,Jr _ _,Jr _ _,Jr _ _⟩
theorem SI(es:List Me)(j:Int):∀i,∀b∈jg es j i,b<256
 | 0=>Jr _ _
 | i+1=>by
  show ∀b∈jg es j i++_,b<256;simp only[List.forall_mem_append];exact⟨SI es j i,Bs6 _⟩
def pm(es:List Me)(n:Nat):List Me:=es.take n++List.replicate (es.length-n) (Me.nil 0)
theorem Brg(es:List Me)(n:Nat):(pm es n).length=es.length:=by unfold pm;rw[aE,bH,bW];omega
theorem sB(h:es.length<=n):pm es n=es:=by
 unfold pm;rw[bK h,show es.length-n=0 from a_];simp
theorem Bry(h:n<es.length):(pm es n).set n es[n]=pm es (n+1):=by
 unfold pm;rw[bV h,show es.length-n=(es.length-(n+1))+1 from a_,dW];have e:(es.take n).length=n:=by rw[bH];omega
 rw[dh _ _ a_,e,fM,List.set_cons_zero,bQ];rfl
theorem SJ:∀l l':List (IntKind × Int),l.map Prod.fst=l'.map Prod.fst->∃r,Ey (l.map fun p=>.int p.1 p.2) (l'.map fun p=>.int p.1 p.2)=some r/\(l=l'->r=true)
 | [],[],_=>⟨true,rfl,fun _=>rfl⟩
 | [],_::_,h=>by cases h
 | _::_,[],h=>by cases h
 | (k,a)::l,(u,t)::l',h=>by
  rw[cZ,cZ,gA]at h;obtain⟨e,h⟩:=h;have e:k=u:=e;subst e;obtain⟨r,C,h2⟩:=SJ l l' h;have D:jC (.int k a) (.int k t)=some (iE a t):=by
   show Bb (Nat.beq (Pv k) (Pv k)) (some (iE a t)) none=_;rw[cP,Aj]
  rw[cZ,cZ];unfold Ey;rw[C,D];cases he:iE a t with
  | true=>exact⟨r,rfl,fun y=>h2 (List.cons.inj y).2⟩
  | false=>
   refine⟨false,rfl,fun y=>?_⟩;have:a=t:=congrArg Prod.snd (List.cons.inj y).1;rw[this,CA]at he;cases he
theorem SK:∀l:List Nat,shaped (List.replicate l.length 0) (Bh l)=true
 | []=>rfl
 | a::l=>by
  show Bb (Nat.beq 0 0) (shaped (List.replicate l.length 0) (Bh l)) false=true;rw[SK l];rfl
def Fr.row(f:Fr):List (IntKind × Int):=[(.i64,f.kind),(.i64,f.Am),(.i64,f.off),(.i64,f.As),(.i64,f.seq)]++f.body.map fun b=>(.u8,Int.ofNat b)
theorem SL {f':Fr}(wf:f.Wf)(a:f'.Wf):∃r:Bool,(∀k:EV->R,Jk iF (bin TT .neq 136) (.agg f.cells) (.agg f'.cells) k=k (.bool r))/\(f=f'->r=false):=by
 have he:TT.eqs 136=some (List.replicate 49 0):=by kernel_rfl
 have rc:∀f:Fr,f.cells=f.row.map fun p=>.int p.1 p.2:=fun f=>by
  unfold Fr.row Fr.cells Bh;rw[bZ,List.map_map];rfl
 have t:∀f:Fr,f.Wf->f.row.map Prod.fst = [.i64,.i64,.i64,.i64,.i64]++List.replicate 44 .u8:=fun f w=>by
  unfold Fr.row;rw[bZ,List.map_map,<-w.len];congr 1;exact List.map_const' ..
 obtain⟨r,u,h2⟩:=SJ f.row f'.row (by rw[t f wf,t f' a]);refine⟨Bb r false true,fun k=>?_,fun y=>by rw[h2 (by rw[y])];rfl⟩;have C:jq TT 136 (.agg f.cells) (.agg f'.cells)=some r:=by
  show(match TT.eqs 136 with|some sh=>Bb (shaped sh f.cells) (Ey f.cells f'.cells) none|none=>none)=_;rw[he];simp only;have s:shaped (List.replicate 49 0) f.cells=true:=by
   have:=SK f.body;rw[wf.len]at this;exact this
  rw[s,Aj,rc,rc,u]
 show oB k (match jq TT 136 (.agg f.cells) (.agg f'.cells)with|some b=>some (EV.bool (Bb b false true))|none=>none)=_;rw[C];rfl
theorem yK{z:Int}(a:snR x y z E=true)(n0:0<=zn)(p:zn<=65535)(t:i<=255):(iU g E x y z zn i).Wf/\hQ (iU g E x y z zn i)=true/\(iU g E x y z zn i).Am=zn/\(iU g E x y z zn i).off=i/\(iU g E x y z zn i).As=y/\(iU g E x y z zn i).seq=x:=by
 obtain⟨⟨x0,u⟩,⟨y0,C⟩,z0,z1⟩:=wo a;unfold iU;split
 next h0=>
  subst h0;refine⟨⟨v_ (by rw[wh];omega),wa (Bn7 g z)⟩,?_,rfl,rfl,rfl,rfl⟩;simp only[hQ,wi,bD,av];omega
 ·refine⟨⟨v_ (by rw[qC];omega),wa (SI E i 2)⟩,?_,rfl,rfl,rfl,rfl⟩
  simp only[hQ,wi,bD,av];omega
theorem SM(g:Gm)(E:List Me)(x y z zn:Int)(h:i<n):(O9 g E x y z zn n)[i]? = some (iU g E x y z zn i):=by
 unfold O9;rw[aY,cL h];rfl
theorem A7w{z:Int}(p:snR x y z E=true)(n0:0<=zn)(t:zn<=65535)(hn:n<=200)(h:i<n):Ke ((O9 g E x y z zn n).map Fr.cells).flatten (i*49) 49=some (iU g E x y z zn i).cells:=by
 refine qB (n:=49) _ _ _ (fun w hw=>?_) (by rw[aY,SM g E x y z zn h];rfl);obtain⟨f,a,rfl⟩:=b9.1 hw;unfold O9 at a;obtain⟨j,hj,rfl⟩:=b9.1 a;have:=eX.1 hj;exact Fr.Ay (yK p n0 t a_).1
theorem sl1 {p:Nat}(h2:2<=p)(a:p<=n)(k:EV->R):il 49 (.slice q 0 n n true) (some (.int .i64 1)) (some (.int .i64 (p:Int))) none k=k (.slice q 49 (p-1) (n-1) true):=by
 have:iJ (.slice q 0 n n true) 49 (some (.int .i64 1)) (some (.int .i64 (p:Int))) none=some (.slice q 49 (p-1) (n-1) true):=by
  have b1:bound (some (.int .i64 (p:Int))) n n=some p:=by
   show Bb (Nat.ble p n) (some p) none=_;rw[aM a,Aj]
  have b2:bound (some (.int .i64 1)) p 0=some 1:=by
   show Bb (Nat.ble 1 p) (some 1) none=_;rw[aM a_,Aj]
  unfold iJ;simp only[b1,b2];rw[Aj,show Nat.beq 1 0=false from rfl,Bk,aM (show Nat.succ 1<=n from a_),Aj];rfl
 unfold il;rw[this];rfl
structure Xa(g:Gm)(E:List Me)(x y z zn:Int)(l:List Fr):Prop where
 rt:rtB g=true
 ok:∀x∈E,meR g x=true
 len:E.length=g.B.toNat
 sn:snR x y z E=true
 z0:0<=zn
 z1:zn<g.D*g.Z
 eq:l=O9 g E x y z zn g.parts.toNat
theorem Xa.pb{z:Int}{l:List Fr}(a:Xa g E x y z zn l):(l.length:Int)=g.parts/\2<=l.length/\l.length<=200/\zn<=65535:=by
 have s:=No a.rt;have:=s.b0;have:=s.b1;have:=s.jO;have:=a.z1;have e:l.length=g.parts.toNat:=by rw[a.eq,Wz]
 unfold Gm.parts at *;omega
theorem Xa.at{z:Int}{l:List Fr}(a:Xa g E x y z zn l)(p:i<l.length):l[i]=iU g E x y z zn i:=by
 have:=SM g E x y z zn (n:=g.parts.toNat) (i:=i) (by have:=a.pb;omega);rw[<-a.eq,aF p]at this;exact ek this
theorem Xa.head{z:Int}{l:List Fr}(a:Xa g E x y z zn l)(p:0<l.length):jL l[0].body=g/\A8p l[0].body=z/\l[0].seq=x/\l[0].As=y/\l[0].Am=zn:=by
 have s:=No a.rt;have:=s.d0;have:=s.d1;have:=s.z0;have:=s.z1;have:=s.s0;have:=s.s1;have:=s.b0;have:=s.b1;have:=s.p0;have:=s.p1;have:=s.o0;have:=s.o1;obtain⟨_,_,z0,z1⟩:=wo a.sn;rw[a.at p];refine⟨?_,?_,rfl,rfl,rfl⟩
 ·show jL (ic (jr g z))=g
  unfold jL ic jr;simp only[bQ,oU (C9 _ _),oV (C9 _ _)];have e1:Int.ofNat (Lx (N1 1 g.D.toNat))=g.D:=Ih (w:=1) (b:=255) a_ a_ c_;have e2:Int.ofNat (Lx (N1 1 g.Z.toNat))=g.Z:=Ih (w:=1) (b:=255) a_ a_ c_;have e3:Int.ofNat (Lx (N1 1 g.S.toNat))=g.S:=Ih (w:=1) (b:=255) a_ a_ c_;have e4:Int.ofNat (Lx (N1 2 g.B.toNat))=g.B:=Ih (w:=2) (b:=65535) a_ a_ c_;have e5:Int.ofNat (Lx (N1 1 g.P.toNat))=g.P:=Ih (w:=1) (b:=255) a_ a_ c_;have e6:Int.ofNat (Lx (N1 1 g.O.toNat))=g.O:=Ih (w:=1) (b:=255) a_ a_ c_;rw[e1,e2,e3,e4,e5,e6]
 ·show A8p (ic (jr g z))=z
  unfold A8p ic jr;simp only[bQ,oU (C9 _ _)];exact Ih (w:=6) a_ z1 c_
theorem Bog{x:Me}(h:es[b]? = some x):h_ es (b:Int)=(x,0):=by
 have a:=(bA.1 h).1;unfold h_;rw[aN ⟨a_,a_⟩,bJ,h];rfl
theorem SN(s:Sm g)(a:∀x∈E,meR g x=true)(hj:j<E.length)(r:List Nat):jY g (pm E j) (j:Int) (jK (jB (h_ E (j:Int)).1++r))=(pm E (j+1),0):=by
 have e:(h_ E (j:Int)).1=E[j]:=by rw[Bog (aF hj)]
 have hm:=a _ (aZ hj);rw[e,Bki s hm];unfold jY;rw[aN (by rw[Brg];omega),aN hm,bJ,Bry hj]
theorem Bpb(s:Sm g)(a:∀x∈E,meR g x=true)(t:E.length=g.B.toNat)(i:Nat):kF g ((i+1:Nat):Int) 2 0 ((ic (jg E ((i+1:Nat):Int) 2)).drop 1) (pm E (2*i))=(pm E (2*(i+1)),0):=by
 have b0:=s.b0;have e:jg E ((i+1:Nat):Int) 2=N1 1 ((i+1:Nat):Int).toNat++jB (h_ E (2*(((i+1:Nat):Int)-1)+(0:Nat))).1++jB (h_ E (2*(((i+1:Nat):Int)-1)+(1:Nat))).1:=rfl;have i0:2*(((i+1:Nat):Int)-1)+((0:Nat):Int)=((2*i:Nat):Int):=a_
 have i1:2*(((i+1:Nat):Int)-1)+((1:Nat):Int)=((2*i+1:Nat):Int):=a_
 unfold ic;rw[e];simp only[bQ,oV (C9 _ _)];rw[i0,i1];simp only[kF];rw[i0,show 2*(((i+1:Nat):Int)-1)+((0+1:Nat):Int)=((2*i+1:Nat):Int)from i1,oV (z7 _)];by_cases h0:g.B<=((2*i:Nat):Int)
 ·rw[aN h0,sB a_,sB a_]
 rw[aK h0,SN s a a_,aN rfl];by_cases p:g.B<=((2*i+1:Nat):Int)
 ·rw[aN p,sB a_,sB a_]
 rw[aK p,SN s a a_,aN rfl];rfl
section
theorem Bgz(H:Ca disp)(hd:7<=d)(hK:1000<K){ll:Nat}(hr:rtB g=true)(m:K7 h b ml ll g es)(hb:HB h){z:Int}(no:¬(snR x y z es=true/\0<=zn/\zn<g.D*g.Z)):
 Ok (Ag TT disp K d false 63 [.agg [I x,I y,I z,.ptr b 0],I zn] h) fun w h'=>w=.tuple [.An,I 10]/\Ext h h'/\HB h':=by
 have s:=No hr;have:=s.s0;obtain⟨e,rfl⟩:=d_ d;rw[AL H];simp only[wq,Aa];obtain⟨h1,T,w1,J,U⟩:=nW h (.cells [I x,I y,I z,.ptr b 0] 58);rw[T];have a:=w1.hb hb;have p:=m.frame (w1.get _ (hb _ _ m.map) id) (w1.get _ (hb _ _ m.row) id) (w1.get _ (hb _ _ m.live) id);rw[Cv J rfl,Ai (n:=4) rfl];simp only[Aa];refine(wm (K:=K) H (d:=e) a_ hK s p a x y z).Al ?_;rintro _ h2 ⟨rfl,t,u⟩;have V:Fa (.tuple []) false=false/\Fa (.tuple []) true=false:=⟨rfl,rfl⟩;cases hR:snR x y z es with
 | false=>
  simp only[Aa,Ac,Yq];exact .ret ⟨rfl,w1.trans t,u⟩
 | true=>
 have g2:=t.at a J;simp only[Aa,Ac];rw[Ak g2 rfl (v:=.ptr b 0) rfl];have m2:=p.frame (t.get _ (a _ _ p.map) id) (t.get _ (a _ _ p.row) id) (t.get _ (a _ _ p.live) id);refine(P6 (K:=K) m2 u).Al ?_;rintro _ h3 ⟨rfl,x3,C⟩;refine(tg (K:=K) (g:=g) C zn 0).Al ?_;rintro _ h4 ⟨rfl,M⟩;have hh:Yj g zn 0=false:=by
  cases hx:Yj g zn 0 with
  | false=>rfl
  | true=>
   simp only[Yj,hr,wi,bF,bD,av]at hx;exact absurd ⟨hR,a_,a_⟩ no
 rw[hh];simp only[Aa,Ac,Yq];exact .ret ⟨rfl,((w1.trans t).trans x3).trans M,M.hb C⟩
structure sC(h:Ab)(l:List Fr)(v:EV)(h':Ab):Prop where
 x:Ext h h'
 hb:HB h'
 r:(v=.tuple [.agg [I 0,I 0,I 0,.Bz],I 10]/\∀g E x y z zn,¬Xa g E x y z zn l)\/∃g E x y z p ml ll,v=.tuple [.agg [I x,I y,I z,.ptr p 0],I 0]/\K7 h' p ml ll g E/\rtB g=true/\snR x y z E=true/\∀g0 E0 x0 y0 z0 zn,Xa g0 E0 x0 y0 z0 zn l->g0=g/\E0=E/\x0=x/\y0=y/\z0=z
section
variable{s:EV}{v2 v4 ll:Nat}{l:List Fr}{z:Int}(lw:∀f∈l,f.Wf)(hN:l.length<=1000)(hr:rtB g=true)(hP:g.parts<=l.length)(hX:∀g0 E0 x0 y0 z0 zn0,Xa g0 E0 x0 y0 z0 zn0 l->g0=g/\x0=x/\y0=y/\z0=z/\zn0=zn)(l2:h0.next<=v2)(l4:h0.next<=v4)(n24:v2≠v4)
include l2
theorem oW(x0:Ext h0 h)(hb:HB h)(p:h.get v2=some (.cells [.int .i64 0,.int .i64 0,.int .i64 0,.Bz] 58))(no:∀g E x y z zn,¬Xa g E x y z zn l):Ok (Bp (Df [(0,1),(1,1),(2,1),(3,1)]) [(.int .i64 0),(.int .i64 0),(.int .i64 0),.Bz] [] fun a=>Vz 4 (.ptr v2 0) a h fun h=>Gi TT [.c (.ptr v2 0) 58,.v (.int .i64 10)] h) fun v h'=>sC h0 l v h':=by
 have t:=hb _ _ p;rw[Ax (l:=[.int .i64 0,.int .i64 0,.int .i64 0,.Bz]) rfl];refine Ok.j4 p rfl rfl ?_;rw[Du (Af _ _ _) ko.1 ko.2 rfl];exact .ret ⟨x0.Ao (.inr l2) t _,hb.put t _,.inl ⟨rfl,no⟩⟩
include lw hN hr hP hX l4 n24
theorem Bp0(c r:Ah){v9:EV}{q9:Nat}(eP:(P:Int)=g.parts)(hR:snR x y z E=true)(n0:0<=zn)(n1:zn<=65535)(hE:∀E0,Xa g E0 x y z zn l->E0=E):∀(n i:Nat) (h:Ab),P-i<n->i<=P->Ext h0 h->HB h->K7 h b ml ll g E->h.get v2=some (.cells [.int .i64 0,.int .i64 0,.int .i64 0,.Bz] 58)->h.get v4=some (.cells [I x,I y,I z,.ptr b 0] 58)->Bu h s q 136 49 l.length (l.map Fr.cells).flatten->iK h v9 q9 136 49 P ((O9 g E x y z zn P).map Fr.cells).flatten ->
 b≠v2->ml≠v2->ll≠v2 ->
 Ok (Tv c r K n s (.ptr v2 0) (.ptr v4 0) v9 (I P) (I i) h) fun v h'=>sC h0 l v h':=by
 have sm:=No hr;have:=sm.b0;have:=sm.b1;have pb:P<=200:=by unfold Gm.parts at eP;omega
 intro n;induction n with
 | zero=>intro i h hn;omega
 | succ n ih=>
  intro i h hn hi x0 hb m Z g4 row u D J M;rw[Tv];simp only[I,Ac];by_cases T:i<P
  case neg=>
   have:decide ((i:Int)<(P:Int))=false:=by simp;omega
   simp only[this,Aa,xr];rw[Cv g4 rfl,Ai (n:=4) rfl];simp only[Aa];have lv:=hb _ _ Z;refine Ok.j4 Z rfl rfl ?_;rw[Du (Af _ _ _) ko.1 ko.2 rfl];refine .ret ⟨x0.Ao (.inr l2) lv _,hb.put lv _,.inr ⟨g,E,x,y,z,b,ml,ll,rfl,m.frame (Ae _ D.symm) (Ae _ J.symm) (Ae _ M.symm),hr,hR,fun g1 E1 x1 y1 z1 ad a=>?_⟩⟩;obtain⟨rfl,rfl,rfl,rfl,rfl⟩:=hX _ _ _ _ _ _ a;exact⟨rfl,hE _ a,rfl,rfl,rfl⟩
  have:decide ((i:Int)<(P:Int))=true:=by simp;omega
  simp only[this,Aa,NJ];have e1:=A7w (g:=g) hR n0 n1 pb T;have w1:=(yK (g:=g) hR n0 n1 (show i<=255 from a_)).1;have ix:=u.ix T;simp only[I]at ix;rw[ix,u.j6 a_ e1]
  try simp only[Aa]
  refine Ok.mk (by simp) (Fr.Ay w1) fun h3 C g3 _=>?_
  have U:=C.hb hb;have V:=x0.trans C;rw[Cd g3 rfl (Ai (Fr.Ay w1))];have t:=row.frame (h':=h3) fun y=>C.get _ (hb _ _ (row.block y)) id
  have hl:i<l.length:=a_
  have w2:=lw _ (aZ hl);have e2:Ke (l.map Fr.cells).flatten (i*49) 49=some l[i].cells:=qB (n:=49) _ _ _ (fun w hw=>by obtain⟨f,hf,rfl⟩:=b9.1 hw;exact Fr.Ay (lw f hf)) (by rw[aY,aF hl];rfl);obtain⟨r',f1,f2⟩:=SL w1 w2;rw[t.ix hl,Cd (t.block a_) rfl e2,f1];have m3:=m.ext fun i o p=>C.at hb p
  cases r' with
  | true=>
   simp only[Aa];refine oW l2 V U (C.at hb Z) fun g1 E1 x1 y1 z1 ad a=>?_
   obtain⟨rfl,rfl,rfl,rfl,rfl⟩:=hX _ _ _ _ _ _ a;have e:=hE _ a;subst e;have:=f2 (a.at hl).symm;cases this
  | false=>
  simp only[Aa,NI,Ac];rw[Ci,show((i:Nat):Int)+1=((i+1:Nat):Int) from a_];exact ih (i+1) h3 a_ a_ V U m3 (C.at hb Z) (C.at hb g4) t (u.frame fun y=>C.get _ (u.lt hb y) id) D J M
variable (A:Ca disp)(hK:10000<K)
include A hK
theorem Bok(hd:8<=d)(eP:(P:Int)=g.parts)(hE:∀E0,Xa g E0 x y z zn l->E0=E)(U:0<l.length)(ez:l[0].Am=zn)(m:K7 h b ml ll g E)(x0:Ext h0 h)(hb:HB h)(C:h.get v2=some (.cells [.int .i64 0,.int .i64 0,.int .i64 0,.Bz] 58))(g4:h.get v4=some (.cells [I x,I y,I z,.ptr b 0] 58))(row:Bu h s q 136 49 l.length (l.map Fr.cells).flatten):
 Ok (tY (Ag TT disp K d false) (Ag TT disp K d true) K s (.ptr v2 0) (.ptr v4 0) h) fun v h'=>sC h0 l v h':=by
 have sm:=No hr;have:=sm.b0;have:=sm.b1;have zb:=sm.jO;have pb:1<=P/\P<=200:=by unfold Gm.parts at eP;omega
 have lq:=hb _ _ (row.block U);have V:=hb _ _ g4;have e2:(l.map Fr.cells).flatten[0*49+1]? = some (I zn):=by
  cases l with
  | nil=>cases U
  | cons f r=>rw[<-ez];rfl
 simp only[tY,Aa,Ar];rw[I6 V,Cv g4 rfl,Ai (n:=4) rfl]
 try simp only[Aa,Ar]
 rw[show ∀k:EV->R,Ve 49 s (.int .i64 0) k=k (.ptr q (0*49))from fun k=>row.ix U .i64 k]
 try simp only[Aa,Ar]
 rw[I6 lq,Ak (row.block U) rfl (v:=I zn) e2]
 try simp only[Aa,Ar]
 have mL:=m.frame (h':=h.lift) (Bv _ _) (Bv _ _) (Bv _ _);by_cases ok:snR x y z E=true/\0<=zn/\zn<g.D*g.Z
 case neg=>
  refine Ok.bE (Bgz A (K:=K) (d:=d) a_ a_ hr mL (Cz hb) (zn:=zn) ok) (fun _ _ p=>p.2.1) ?_;rintro _ aa h2 ⟨rfl,_,_⟩ J t;have u:=t.hb hb;simp only[Aa,I,Ac];simp only[show ¬((10:Int)=0) from c_,aH,aB,Aa];refine oW l2 (x0.trans t) u (t.at hb C) fun g1 E1 x1 y1 z1 aj a=>?_
  obtain⟨rfl,rfl,rfl,rfl,rfl⟩:=hX _ _ _ _ _ _ a;have e:=hE _ a;subst e;exact ok ⟨a.sn,a.z0,a.z1⟩
 obtain⟨hR,n0,n1⟩:=ok;refine Ok.bE (td A (K:=K) (d:=d) a_ a_ hr mL (Cz hb) hR n0 n1) (fun _ _ p=>by obtain⟨_,_,_,_,_,_,_,_,w,_⟩:=p;exact w) ?_;rintro _ aa h2 ⟨v9,q9,M,rfl,r9,_,eM,_,_,ao⟩ J t;have u:=t.hb hb;have lM:M.length=P:=by rw[eM,Wz];omega
 rw[lM]at r9;rw[eM,show g.parts.toNat=P from a_]at r9;have T:=r9.frame (h':=h2) fun _=>J.get _
 simp only[Aa,I,Ac];simp only[aC,aA];simp only[Aa,NK];rw[T.Fz];exact Bp0 lw hN hr hP hX l2 l4 n24 _ _ eP hR n0 a_ hE K 0 h2 a_ a_ (x0.trans t) u (m.ext fun i o p=>t.at hb p) (t.at hb C) (t.at hb g4) (row.frame fun y=>t.get _ (hb _ _ (row.block y)) id) T (Av m.map C (by simp)) (Av m.row C (by simp)) (Av m.live C (by simp))
theorem Bkw(hd:8<=d)(lm:h0.next<=ml/\h0.next<=ll)(eP:(P:Int)=g.parts)(hl:0<l.length)(ez:l[0].Am=zn):∀(n i:Nat) (h:Ab) (es:List Me),(P-1)-i<n->i<=P-1->(∀E0,Xa g E0 x y z zn l->es=pm E0 (2*i))->K7 h b ml ll g es->Ext h0 h->HB h->h.get v2=some (.cells [.int .i64 0,.int .i64 0,.int .i64 0,.Bz] 58)->h.get v4=some (.cells [I x,I y,I z,.ptr b 0] 58)->Bu h s q 136 49 l.length (l.map Fr.cells).flatten ->
 Ok (Q9 (Ag TT disp K d false) (Ag TT disp K d true) K n s (.ptr v2 0) (.ptr v4 0) (.slice q 49 (P-1) (l.length-1) true) (I (P-1:Nat)) (I i) h) fun v h'=>sC h0 l v h':=by
 have sm:=No hr;have:=sm.b0;have:=sm.b1;have pb:2<=P/\P<=200:=by unfold Gm.parts at eP;omega
 have zb:=sm.jO;have bb:Fa (.tuple []) false=false/\Fa (.tuple []) true=false:=⟨rfl,rfl⟩;intro n;induction n with
 | zero=>intro i h es hn;omega
 | succ n ih=>
  intro i h es hn hi T m x0 hb g2 g4 row;rw[Q9];simp only[I,Ac];by_cases U:i<P-1
  case neg=>
   have:decide ((i:Int)<((P-1:Nat):Int))=false:=by simp;omega
   simp only[this,Aa];refine Bok lw hN hr hP hX l2 l4 n24 A hK hd eP (fun E0 a=>?_) hl ez m x0 hb g2 g4 row;have:=a.len;have:=a.pb;unfold Gm.parts at eP;rw[T E0 a,sB a_]
  have:decide ((i:Int)<((P-1:Nat):Int))=true:=by simp;omega
  simp only[this,Aa,NN];have D:i+1<l.length:=a_
  have w1:=lw _ (aZ D);have e1:Ke (l.map Fr.cells).flatten ((i+1)*49) 49=some l[i+1].cells:=qB (n:=49) _ _ _ (fun w hw=>by obtain⟨f,V,rfl⟩:=b9.1 hw;exact Fr.Ay (lw f V)) (by rw[aY,aF D];rfl);rw[show(i+1)*49=49+i*49 from a_]at e1;have xa:∀E0,Xa g E0 x y z zn l->l[i+1]=iU g E0 x y z zn (i+1):=fun E0 a=>a.at D
  rw[Md U,Cd (row.block a_) rfl e1];generalize l[i+1]=f at w1 xa⊢
  try simp only[Aa]
  refine Ok.mk (by simp) (Fr.Ay w1) fun h3 M g3 _=>?_
  have p:=M.hb hb;have Z:=x0.trans M;have t:=M.at hb g2;have u:=M.at hb g4;have J:=m.ext fun i o q=>M.at hb q
  have C:=row.frame (h':=h3) fun y=>M.get _ (hb _ _ (row.block y)) id
  rw[Ak g3 rfl (v:=I f.off) rfl];simp only[I,Ac];rw[Ci];by_cases ho:f.off=(i:Int)+1
  case neg=>
   simp only[ho,aH,aB,Aa,Ac,tZ];refine oW l2 Z p t fun g1 E1 x1 y1 z1 ai a=>?_
   obtain⟨rfl,rfl,rfl,rfl,rfl⟩:=hX _ _ _ _ _ _ a;refine ho ?_;rw[xa _ a];unfold iU;rw[aK (Nat.succ_ne_zero i)];show((i+1:Nat):Int)=_;omega
  simp only[ho,aC,aA,Aa];rw[Cv u rfl,Ai (n:=4) rfl]
  try simp only[Aa]
  rw[Cd g3 rfl (Ai (Fr.Ay w1))];refine(Baa (K:=K) hK sm (f:=f) J p w1 a_ (x:=I x) (y:=I y) (z:=I z) ⟨rfl,rfl,rfl⟩).Al ?_;have ft:f.off=((i+1:Nat):Int):=a_
  rw[ft];have fx:∀E0,Xa g E0 x y z zn l->kF g ((i+1:Nat):Int) 2 0 (f.body.drop 1) es=(pm E0 (2*(i+1)),0):=fun E0 a=>by
   have eb:f.body=ic (jg E0 ((i+1:Nat):Int) 2):=by
    rw[xa _ a];unfold iU;rw[aK (Nat.succ_ne_zero i)]
   rw[eb,T E0 a];exact Bpb sm a.ok a.len i
  rintro _ h4 ⟨rfl,m4,c4,aa⟩;generalize kF g ((i+1:Nat):Int) 2 0 (f.body.drop 1) es=FG at m4 fx⊢;have al:=Av t J.row (by simp);have ao:=Av t J.live (by simp);have aq:=Av u J.row (by simp);have au:=Av u J.live (by simp);have ab:=c4.at p t fun y=>y.elim al ao
  have aw:=c4.at p u fun y=>y.elim aq au
  have gq:=C.block hl;have ay:=Av gq J.row (by simp);have az:=Av gq J.live (by simp);have ad:=C.frame (h':=h4) fun y=>c4.get _ (p _ _ gq) fun y=>y.elim ay az
  have ae:Ext h0 h4:=Z.then c4 fun j hj U=>by rcases hj with rfl|rfl<;>omega
  simp only[I,Ac];by_cases V:FG.2=0
  case neg=>
   simp only[V,aH,aB,Aa,Ac,tZ];refine oW l2 ae aa ab fun g1 E1 x1 y1 z1 ai a=>?_
   obtain⟨rfl,rfl,rfl,rfl,rfl⟩:=hX _ _ _ _ _ _ a;exact V (by rw[fx _ a])
  simp only[V,aC,aA];simp only[Aa,Ac,tZ,NL,Ac];rw[Ci,show((i:Nat):Int)+1=((i+1:Nat):Int) from a_];exact ih (i+1) h4 FG.1 a_ a_ (fun E0 a=>by rw[fx _ a]) m4 ae aa ab aw ad
end
end
theorem A8c(A:Ca disp)(hK:10000<K)(hd:9<=d){s:EV}{l:List Fr}(lw:∀f∈l,f.Wf)(hN:l.length<=1000)(row:Bu h s q 136 49 l.length (l.map Fr.cells).flatten)(hb:HB h):
 Ok (Ag TT disp K d false 62 [s] h) fun v h'=>sC h l v h':=by
 obtain⟨e,rfl⟩:=d_ d;rw[A2b A a_];simp only[NQ,Aa];obtain⟨h1,e_,w1,g1,bb⟩:=nW h (.cells [.int .i64 0,.int .i64 0,.int .i64 0,.Bz] 58);rw[e_];have C:=w1.hb hb;have r1:=row.frame (h':=h1) fun y=>w1.get _ (hb _ _ (row.block y)) id
 rw[r1.Fz];simp only[I,Ac];by_cases M:0<l.length
 case neg=>
  have e0:l = []:=cY a_;have:decide ((l.length:Int)=0)=true:=aQ a_;simp only[this,Aa];refine oW (aD _) w1 C g1 fun g E x y z zn a=>?_
  have:=a.pb;omega
 have:decide ((l.length:Int)=0)=false:=aS a_;simp only[this,Aa,NP];have e1:Ke (l.map Fr.cells).flatten (0*49) 49=some l[0].cells:=qB (n:=49) _ _ _ (fun w hw=>by obtain⟨f,hf,rfl⟩:=b9.1 hw;exact Fr.Ay (lw f hf)) (by rw[aY,aF M];rfl);rw[show ∀k:EV->R,Ve 49 s (.int .i64 0) k=k (.ptr q (0*49))from fun k=>r1.ix M .i64 k,Cd (r1.block M) rfl e1];have fw:=lw _ (aZ M);have bk:Fa (.tuple []) false=false/\Fa (.tuple []) true=false:=⟨rfl,rfl⟩;have hX:∀g0 E0 x0 y0 z0 zn0,Xa g0 E0 x0 y0 z0 zn0 l->g0=jL l[0].body/\x0=l[0].seq/\y0=l[0].As/\z0=A8p l[0].body/\zn0=l[0].Am:=fun g0 E0 x0 y0 z0 zn0 a=>by
  obtain⟨a1,a2,a3,a4,a5⟩:=a.head M;exact⟨a1.symm,a3.symm,a4.symm,a2.symm,a5.symm⟩
 refine(A7c hK fw C).Al ?_;rintro v h2 B;have D:=B.hb;have x2:=B.x;have ao:=x2.at C g1;have aq:=w1.trans x2;cases hr:rtB (jL l[0].body)with
 | false=>
  rw[B.no hr];simp only[Aa];refine Ok.mk rfl rfl fun h3 T g3 _=>?_
  simp only[I,Ac];simp only[show ¬((20:Int)=0) from c_,aH,aB];simp only[Aa,Ac,t_];refine oW (aD _) (aq.trans T) (T.hb D) (T.at D ao) fun g E x y z zn a=>?_
  rw[(hX _ _ _ _ _ _ a).1.symm]at hr;rw[a.rt]at hr;cases hr
 | true=>
 obtain⟨b,ml,ll,rfl,m,lb,bp,bt⟩:=B.yes hr;have sg:=No hr;have:=sg.b0;have:=sg.b1;simp only[Aa];refine Ok.mk rfl rfl fun h3 T g3 _=>?_
 have p:=T.hb D;have aa:Ext h1 h3:=x2.trans T;have au:Ext h h3:=w1.trans aa;have ab:=aa.at C g1;have t2:=x2.next
 simp only[I,Ac];simp only[aC,aA];simp only[Aa,OT];rw[Ak g3 rfl (v:=.ptr b 0) rfl];have m3:=m.ext fun i o q=>T.at D q
 refine(P6 (K:=K) m3 p).Al ?_;rintro _ h4 ⟨rfl,x4,bw⟩;rw[tc sg,Aq];have t:Ext h3 (h4.new (.cells (gL (jL l[0].body)) 23)):=x4.Da _;generalize h4.new (.cells (gL (jL l[0].body)) 23)=h5 at t⊢;have U:=t.hb p;have V:=au.trans t;have ad:=row.frame (h':=h5) fun y=>V.get _ (hb _ _ (row.block y)) id
 rw[ad.Fz];simp only[I,Ac];obtain⟨P,eP⟩:∃P:Nat,(P:Int)=(jL l[0].body).parts:=⟨(jL l[0].body).parts.toNat,by unfold Gm.parts;omega⟩;have pb:2<=P/\P<=200:=by unfold Gm.parts at eP;omega
 by_cases hP:(jL l[0].body).parts>(l.length:Int)
 ·simp only[hP,aB,Aa,Ac,t_]
  refine oW (aD _) V U (t.at p ab) fun g E x y z zn a=>?_
  have:=a.pb;rw[(hX _ _ _ _ _ _ a).1]at this;omega
 rw[aS hP];simp only[Aa,OT,t_,NO];rw[Ak (t.at p g3) rfl (v:=.ptr b 0) rfl];have m5:=m3.ext fun i o q=>t.at p q
 refine(P6 (K:=K) m5 U).Al ?_;rintro _ h6 ⟨rfl,x6,b5⟩;rw[tc sg,Aq];have J:Ext h5 (h6.new (.cells (gL (jL l[0].body)) 23)):=x6.Da _;generalize h6.new (.cells (gL (jL l[0].body)) 23)=h7 at J⊢;have ay:=J.hb U;have ae:=V.trans J;have Z:=t.trans J;have u:=row.frame (h':=h7) fun y=>ae.get _ (hb _ _ (row.block y)) id
 rw[<-eP,u.slice M];unfold I;rw[sl1 a_ a_];rw[show ∀k:EV->R,Fz (.slice q 49 (P-1) (l.length-1) true) k=k (I (P-1:Nat))from fun _=>rfl];have:=Bkw lw hN hr a_ hX (aD h.next) a_ a_ A hK (s:=s) (q:=q) (v2:=h.next) (v4:=h2.next) (d:=e) a_ (ml:=ml) (ll:=ll) ⟨a_,a_⟩ eP M rfl K 0 h7 _ a_ a_ (fun E0 a=>by
  have:=a.len;unfold pm;rw[Nat.mul_zero,gK,cS,gO,a.len]) (m3.ext fun i o q=>Ext.at Z p q) ae ay (Ext.at Z p ab) (Ext.at Z p g3) u
 rw[u.slice M]at this;exact this
section
theorem SO:∀{a b:List Nat},Bh a=Bh b->a=b
 | [],[],_=>rfl
 | [],_::_,h=>by cases h
 | _::_,[],h=>by cases h
 | x::a,y::b,h=>by
  have h:EV.int .u8 (Int.ofNat x)::Bh a=EV.int .u8 (Int.ofNat y)::Bh b:=h;injection h with p h2;injection p with _ p;rw[SO h2,Int.ofNat.inj p]
def Pa(g:Gm)(E:List Me)(x y z zn:Int)(X:List (List EV)):Prop:=∃l,Xa g E x y z zn l/\X=l.map fun f=>Bh (Mh f)
structure yL(h:Ab)(zn:Int)(X:List (List EV))(v:EV)(h':Ab):Prop where
 x:Ext h h'
 hb:HB h'
 r:(v=.tuple [.agg [I 0,I 0,I 0,.Bz],I 10]/\∀g E x y z,¬Pa g E x y z zn X)\/∃g E x y z p ml ll,v=.tuple [.agg [I x,I y,I z,.ptr p 0],I 0]/\K7 h' p ml ll g E/\rtB g=true/\snR x y z E=true/\∀g0 E0 x0 y0 z0,Pa g0 E0 x0 y0 z0 zn X->g0=g/\E0=E/\x0=x/\y0=y/\z0=z
section
variable (A:Ca disp)(hK:10000<K){X:List (List EV)}(hX:Asm X)(hN:X.length<=1000)
include A hK
theorem SP(hd:9<=d){s:EV}{l:List Fr}(D:h0.next<=v6)(lw:∀f∈l,f.Wf)(T:l.length<=1000)(row:Bu h s q 136 49 l.length (l.map Fr.cells).flatten)(J:Ext h0 h)(hb:HB h)(U:h.get v6=some (.cells [.int .i64 0,.int .i64 0,.int .i64 0,.Bz] 58))(M:∀l0 g E x y z,Xa g E x y z zn l0->X=l0.map (fun f=>Bh (Mh f))->l=l0):
 Ok (ua (Ag TT disp K d false) (Ag TT disp K d true) K (.ptr v6 0) s h) fun v h'=>yL h0 zn X v h':=by
 simp only[ua,Aa];refine Ok.Al (A8c A hK (d:=d) a_ lw T row hb) ?_;rintro v h2 r;have C:=r.hb;have t:=r.x.at hb U;have u:=C _ _ t;rcases r.r with⟨rfl,no⟩|⟨g,E,x,y,z,p,ml,ll,rfl,m,hr,sn,ex⟩
 ·simp only[Aa]
  refine Ok.j4 t rfl rfl ?_;rw[Du (Af _ _ _) ko.1 ko.2 rfl];refine .ret ⟨(J.trans r.x).Ao (.inr D) u _,C.put u _,.inl ⟨rfl,fun g E x y z ⟨l0,a,e⟩=>?_⟩⟩;have:=M _ _ _ _ _ _ a e;subst this;exact no _ _ _ _ _ _ a
 ·simp only[Aa]
  refine Ok.j4 t rfl rfl ?_;rw[Du (Af _ _ _) ko.1 ko.2 rfl];refine .ret ⟨(J.trans r.x).Ao (.inr D) u _,C.put u _,.inr ⟨g,E,x,y,z,p,ml,ll,rfl,m.frame (Ae _ (Av t m.map (by simp))) (Ae _ (Av t m.row (by simp))) (Ae _ (Av t m.live (by simp))),hr,sn,fun g0 E0 x0 y0 z0 ⟨l0,a,e⟩=>?_⟩⟩;have:=M _ _ _ _ _ _ a e;subst this;exact ex _ _ _ _ _ _ a
include hX hN
theorem Bas(hd:9<=d){v3:Nat}(l3:h0.next<=v3)(l6:h0.next<=v6)(rx:Bu h0 sx qx 32 64 X.length X.flatten)(ae:HB h0):
 ∀(n i:Nat) (h:Ab) (s:EV) (q:Nat) (l:List Fr),X.length-i<n->i<=X.length->l.length=i->(∀f∈l,f.Wf)->(∀l0 g E x y z,Xa g E x y z zn l0->X=l0.map (fun f=>Bh (Mh f))->l=l0.take i)->Ext h0 h->HB h->h.get v3=some (.cells Bc 73)->h.get v6=some (.cells [.int .i64 0,.int .i64 0,.int .i64 0,.Bz] 58)->Bu h s q 136 49 l.length (l.map Fr.cells).flatten->(0<i->h0.next<=q/\q≠v3/\q≠v6) ->
 Ok (U6 (Ag TT disp K d false) (Ag TT disp K d true) K n (I zn) (.ptr v3 0) (.ptr v6 0) s sx (I X.length) (I i) h) fun v h'=>yL h0 zn X v h':=by
 intro n;induction n with
 | zero=>intro i h s q l hn;omega
 | succ n ih=>
  intro i h s q l ba hi el lw hl J hb gv Z row hq;rw[U6];simp only[I,Ac];by_cases t:i<X.length
  case neg=>
   have ei:i=X.length:=a_
   have:decide ((i:Int)<(X.length:Int))=false:=by simp;omega
   simp only[this,Aa];refine SP A hK hd l6 lw a_ row J hb Z fun l0 g E x y z a e=>?_
   rw[hl _ _ _ _ _ _ a e];exact bK (by rw[ei,e,bT];exact aD _)
  have e3:decide ((i:Int)<(X.length:Int))=true:=by simp;omega
  simp only[e3,Aa,NT];have M:=rx.frame (h':=h) fun y=>J.get _ (ae _ _ (rx.block y)) id
  have e1:Ke X.flatten (i*64) 64=some X[i]:=qu (n:=64) _ _ _ (fun x hx=>(hX x hx).1) (aF t);obtain⟨xl,⟨sb,su,es⟩⟩:=hX _ (aZ t);have sl:sb.length=64:=by rw[es,Bf]at xl;exact xl
  have xa:∀l0 g E x y z,Xa g E x y z zn l0->X=l0.map (fun f=>Bh (Mh f))->∃hj:i<l0.length,hM sb zn i=(l0[i],0):=fun l0 g E x y z a e=>by
   have lj:l0.length=X.length:=by rw[e,bT]
   have hj:i<l0.length:=a_
   refine⟨hj,?_⟩;have pb:=a.pb;have ej:X[i]=Bh (Mh l0[i]):=by
    have h1:X[i]? = some X[i]:=aF t;have h2:X[i]? = some (Bh (Mh l0[i])):=by rw[e,aY,aF hj];rfl
    rw[h1]at h2;exact ek h2
   have fa:=a.at hj;obtain⟨u,fr,fz,fo,_⟩:=yK (g:=g) a.sn a.z0 a_ (show i<=255 from a_);rw[<-fa]at u fr fz fo;have aj:sb=Mh l0[i]:=by
    rw[es]at ej;exact SO ej
   rw[aj];have:=Bmk u fr;rw[fz,fo]at this;exact this
  rw[M.ix t,Cd (M.block a_) rfl e1,es]
  try simp only[Aa]
  refine Ok.mk (by simp) (by rw[Bf,sl]) fun h2 x2 g2 _=>?_
  have T:=x2.hb hb;rw[Cv (x2.at hb gv) rfl,Ai (n:=256) Qo];simp only[Aa];rw[Cd g2 rfl (Ai (by rw[Bf,sl]))];have fa:=SQ (K:=K) sl su T hK zn i;simp only[I]at fa;refine fa.Al ?_;rintro _ h3 ⟨rfl,u,x3⟩;generalize hM sb zn i=FA at u xa⊢;have ao:=x3.hb T;simp only[Aa];refine Ok.mk (by simp) (Fr.Ay u) fun h4 x4 g4 _=>?_
  have D:=x4.hb ao;have p:Ext h h4:=(x2.trans x3).trans x4;have C:=row.frame (h':=h4) fun y=>p.get _ (hb _ _ (row.block y)) id
  simp only[Ac];by_cases h0:FA.2=0
  case neg=>
   simp only[h0,aH,aB,Aa];refine SP A hK hd l6 lw a_ C (J.trans p) D (p.at hb Z) fun l0 g E x y z a e=>?_
   obtain⟨hj,ea⟩:=xa _ _ _ _ _ _ a e;exact absurd (by rw[ea]) h0
  simp only[h0,aC,aA];simp only[Aa,NS];rw[Cd g4 rfl (Ai (Fr.Ay u))];refine Kv C D rfl (by simp) (Fr.Ay u) a_ a_ ?_;intro h5 U n5 c5;simp only[NR,Ac];rw[Ci,show((i:Nat):Int)+1=((i+1:Nat):Int) from a_];have lv:=hb _ _ gv;have bo:=hb _ _ Z;have nx:=p.next
  have c:Aw (fun j=>0<l.length/\j=q) h h5:=(Ext.to p).trans c5;refine ih (i+1) h5 _ (h4.next+1) (l++[FA.1]) a_ a_ (by rw[aE,el];rfl) (fun f V=>?_) (fun l0 g E x y z a e=>?_) (J.then c fun j hj a=>?_) (c5.hb D) (c.at hb gv fun y=>(hq a_).2.1 y.2.symm) (c.at hb Z fun y=>(hq a_).2.2 y.2.symm) ?_ (fun _=>⟨by have:=J.next;omega,a_,a_⟩)
  ·rcases bO.1 V with V|V
   ·exact lw f V
   ·rw[aP.1 V];exact u
  ·obtain⟨hj,ea⟩:=xa _ _ _ _ _ _ a e
   rw[hl _ _ _ _ _ _ a e,ea,bV hj]
  ·have:=(hq a_).1
   have:=hj.2;omega
  ·rw[bZ,cm,aE,show([FA.1].map Fr.cells).flatten=FA.1.cells from cW _];exact U
theorem Bn5(hd:10<=d)(rx:Bu h sx qx 32 64 X.length X.flatten)(hb:HB h):
 Ok (Ag TT disp K d false 23 [U1,I zn,sx] h) fun v h'=>yL h zn X v h':=by
 obtain⟨e,rfl⟩:=d_ d;rw[A09 A a_];simp only[NU,U1,Aa];have a:Ext h ((h.new (.cells Bc 73)).new (.cells [.int .i64 0,.int .i64 0,.int .i64 0,.Bz] 58)):=(Aw.new _ _).Da _;have c1:((h.new (.cells Bc 73)).new (.cells [.int .i64 0,.int .i64 0,.int .i64 0,.Bz] 58)).get h.next=some (.cells Bc 73):=by rw[Az _ (aO _)];exact Ad _ _
 have t:((h.new (.cells Bc 73)).new (.cells [.int .i64 0,.int .i64 0,.int .i64 0,.Bz] 58)).get (h.next+1)=some (.cells [.int .i64 0,.int .i64 0,.int .i64 0,.Bz] 58):=Ad _ _;rw[show(h.new (.cells Bc 73)).next=h.next+1 from rfl];generalize (h.new (.cells Bc 73)).new (.cells [.int .i64 0,.int .i64 0,.int .i64 0,.Bz] 58)=u at a c1 t⊢;have p:=a.hb hb;rw[rx.Fz];exact Bas (K:=K) A hK hX hN (d:=e) a_ (aD h.next) (fK _) rx hb K 0 u .An 0 [] a_ a_ rfl (fun _ y=>by cases y) (fun _ _ _ _ _ _ _ _=>rfl) a p c1 t (Bu.nil _ _ _ _) (fun y=>absurd y (bU _))
end
end
theorem Bol(c r:Ah){L M:List Fr}{D J:EV}{V Z:Nat}(hL:nN L)(T:nN M)(e:L.length=M.length)(hN:L.length<=200):∀(n i:Nat) (h:Ab),L.length-i<n->i<=L.length->iK h D V 136 49 L.length (L.map Fr.cells).flatten->iK h J Z 136 49 M.length (M.map Fr.cells).flatten ->
 Ok (Y6 c r K n D J (I L.length) (I i) h) fun v h'=>∃t:Bool,v=.bool t/\h'=h/\(L=M->t=true):=by
 intro n;induction n with
 | zero=>intro i h hn;omega
 | succ n ih=>
  intro i h hn hi u C;rw[Y6];simp only[I,Ac];by_cases p:i<L.length
  case neg=>
   have:decide ((i:Int)<(L.length:Int))=false:=by simp;omega
   simp only[this,Aa,MY];exact .ret ⟨true,rfl,rfl,fun _=>rfl⟩
  have:decide ((i:Int)<(L.length:Int))=true:=by simp;omega
  have a:i<M.length:=a_
  simp only[this,Aa,M_];have w1:=(hL _ (aZ p)).1;have w2:=(T _ (aZ a)).1;have ix:=u.ix p;have U:=C.ix a;simp only[I]at ix U;obtain⟨t,f1,f2⟩:=SL w1 w2;rw[ix,u.j6 a_ (wu hL (aF p)),U,C.j6 a_ (wu T (aF a)),f1];cases t with
  | true=>
   simp only[Aa];exact .ret ⟨false,rfl,rfl,fun y=>by subst y;cases f2 rfl⟩
  | false=>
   simp only[Aa,MZ,Ac];rw[Ci,show((i:Nat):Int)+1=((i+1:Nat):Int) from a_];exact ih (i+1) h a_ a_ u C
theorem Bps(A:Ca disp)(hK:10000<K)(hd:8<=d)(hb:HB h){p1 ai aj V al ao:Nat}{g1 g2:Gm}{E1 E2:List Me}{u C z1 J T U:Int}(r1:rtB g1=true)(m1:K7 h p1 ai aj g1 E1)(s1:snR u C z1 E1=true)(r2:rtB g2=true)(m2:K7 h V al ao g2 E2)(s2:snR J T U E2=true):
 Ok (Ag TT disp K d false 25 [.agg [I u,I C,I z1,.ptr p1 0],.agg [I J,I T,I U,.ptr V 0]] h) fun v h'=>∃t:Bool,v=.bool t/\Ext h h'/\HB h'/\(g1=g2->E1=E2->u=J->C=T->z1=U->t=true):=by
 have aa:=No r1;have ay:=No r2;have dz:∀{g:Gm},Sm g->(0:Int)<g.D*g.Z:=fun {g} s=>by
  have:=s.d0;have:=s.z0;exact Int.mul_pos a_ a_
 obtain⟨e,rfl⟩:=d_ d;rw[A2g A a_];simp only[NB,Aa];rw[show(h.new (.cells [I u,I C,I z1,.ptr p1 0] 58)).next=h.next+1 from rfl];have w1:Ext h ((h.new (.cells [I u,I C,I z1,.ptr p1 0] 58)).new (.cells [I J,I T,I U,.ptr V 0] 58)):=(Aw.new _ _).Da _;have c1:((h.new (.cells [I u,I C,I z1,.ptr p1 0] 58)).new (.cells [I J,I T,I U,.ptr V 0] 58)).get h.next=some (.cells [I u,I C,I z1,.ptr p1 0] 58):=by rw[Az _ (aO _)];exact Ad _ _
 have c2:((h.new (.cells [I u,I C,I z1,.ptr p1 0] 58)).new (.cells [I J,I T,I U,.ptr V 0] 58)).get (h.next+1)=some (.cells [I J,I T,I U,.ptr V 0] 58):=Ad _ _;generalize (h.new (.cells [I u,I C,I z1,.ptr p1 0] 58)).new (.cells [I J,I T,I U,.ptr V 0] 58)=h1 at w1 c1 c2⊢;have ad:=w1.hb hb;rw[Cv c1 rfl,Ai (n:=4) rfl];simp only[Aa];refine(td A (K:=K) (d:=e) a_ a_ r1 (m1.ext fun i o p=>w1.at hb p) ad s1 (Int.le_refl 0) (dz aa)).Al ?_;rintro _ h2 ⟨v5,q5,L,rfl,r5,_,eL,iL,w2,ae⟩;have af:=w1.trans w2;simp only[Aa];rw[Cv (w2.at ad c2) rfl,Ai (n:=4) rfl];simp only[Aa];refine(td A (K:=K) (d:=e) a_ a_ r2 (m2.ext fun i o p=>Ext.at af hb p) ae s2 (Int.le_refl 0) (dz ay)).Al ?_;rintro _ h3 ⟨v7,q7,M,rfl,r7,_,eM,iM,w3,ag⟩;have ab:=r5.frame (h':=h3) fun y=>w3.get _ (r5.lt ae y) id
 have bn:Fa (.tuple []) false=false/\Fa (.tuple []) true=false:=⟨rfl,rfl⟩;simp only[Aa,I,Ac,aC,aA];rw[ab.Fz,r7.Fz];simp only[I,Ac];have ah:=af.trans w3;by_cases el:(L.length:Int)=(M.length:Int)
 case neg=>
  simp only[el,aH,aB,Aa,Ac,xq];exact .ret ⟨false,rfl,ah,ag,fun a b c d f=>by subst a b c d f;rw[<-eL]at eM;subst eM;exact absurd rfl el⟩
 simp only[el,aC,aA,Aa,Ac,xq,NA];rw[ab.Fz];have pb:L.length<=200:=by
  have:=aa.b0;have:=aa.b1;rw[eL,Wz];unfold Gm.parts;omega
 refine(Bol (K:=K) _ _ iL iM a_ pb K 0 h3 a_ a_ ab r7).mono ?_;rintro _ _ ⟨t,rfl,rfl,ht⟩;exact⟨t,rfl,ah,ag,fun a b c d f=>ht (by subst a b c d f;rw[eL,eM])⟩
structure Bsk(K:Nat)(h:Ab)(m:Nat)(S:Mi)(D V qc:Nat)(cs:EV):Prop where
 C0:Bm K (.ptr m 0) h=some (.ptr D 0,h)
 device:Dl K (.ptr D 0) h=some (.ptr V 0,h)
 Fl:Oe K (.ptr D 0) h=some (.func 90 [] [.ptr h.next 0],h.new (.cells [cs] 115))
 wf:∀e∈S.dr.ev,e.Wf
 Bsj:Bu h cs qc 34 68 S.dr.ev.length (S.dr.ev.map Le.cells).flatten
 no:∀z:Int,S.dr.dv.has z=false->Js K (.ptr V 0) (I z) h=some (.func 59 [] [],h)
 yes:∀z:Int,S.dr.dv.has z=true->∃s q,Js K (.ptr V 0) (I z) h=some (.func 144 [] [.ptr h.next 0],h.new (.cells [s] 63))/\Bu h s q 32 64 (S.dr.dv.zs z.toNat).l.length (S.dr.dv.zs z.toNat).l.flatten/\Asm (S.dr.dv.zs z.toNat).l/\(S.dr.dv.zs z.toNat).l.length<=64
theorem Bob{s:EV}{sz e t f:Nat}{l:List EV}(r:Bu h s q e sz n l):(Al (Pz t s h fun b h=>some (EV.func f [] [b],h)) fun v h=>some (v,h))=some (EV.func f [] [EV.ptr h.next 0],h.new (Ds.cells [s] t)):=by
 rcases r with⟨_,_,rfl|⟨b,rfl⟩⟩|⟨_,rfl,_⟩<;>rfl
theorem Bmh{s:EV}{sz e t f:Nat}{l:List EV}(r:Bu h s q e sz n l):(Al (Al (Pz t s h fun b h=>some (EV.func f [] [b],h)) fun v h=>some (v,h)) fun v h=>some (v,h))=some (EV.func f [] [EV.ptr h.next 0],h.new (Ds.cells [s] t)):=by
 rcases r with⟨_,_,rfl|⟨b,rfl⟩⟩|⟨_,rfl,_⟩<;>rfl
theorem SR(M:C8 h m S F):∃D V qc cs,Bsk K h m S D V qc cs:=by
 obtain⟨lt,D,p,bl,ql,np,q,c,G,a⟩:=M.s;obtain⟨V,Z,qc,qh,cs,hs,ms,F',b⟩:=a.drv.Ly;have C:=fun z=>sD (K:=K) b.dev z
 obtain⟨w,wl,zl,z,q',d,dF⟩:=b.dev;refine⟨D,V,qc,cs,Vq a.Jb,BE b,?_,a.drv.wf.wf,b.Fl,fun i u=>?_,fun i u=>?_⟩
 ·simp only[Oe,Aa]
  rw[Ak b.C0 rfl (v:=cs) rfl];simp only[Gp,Aa];exact Bob b.Fl
 ·simp only[Js,C,u,Aa]
 ·have:=cX u
  obtain⟨j,rfl⟩:∃j:Nat,i=j:=⟨i.toNat,a_⟩;have hj:j<S.dr.dv.n:=a_
  have J:=d.Am j hj;obtain⟨s,g,r⟩:=J.Am;have T:=w.zs j hj;rw[bJ];refine⟨s,q' j,?_,r,fun x U=>⟨J.wf x U,T.u8 x U⟩,by have:=T.len;have:=w.size;omega⟩;have t:=C (j:Int);rw[u]at t;simp only[I]at t;simp only[Js,I,t,Aa,ND];rw[d.list,d.qj hj];simp only[Ma,Aa];rw[Ak g rfl (v:=s) rfl];simp only[Ge,Aa];exact Bmh r
section
theorem Ble {e l0:Nat}{s:EV}{X:List (List EV)}(hX:Asm X)(hn:X.length<=64)(hb:∀i h,St i h->HB h)(row:∀i h,St i h->Bu h s q 32 64 X.length X.flatten)(ext:∀i h h',St i h->Ext h h'->St i h')
 (Dr:∀(i:Nat) x h,X[i]? = some x->St i h->Ok (Ag TT disp K e true l0 [I i,.agg x] h) fun v h'=>v=.bool true/\St (i+1) h'):∀(m i:Nat) (h:Ab),X.length-i<m->i<=X.length->St i h ->
 Ok (Cx (Ag TT disp K e false) (Ag TT disp K e true) K m (.U5 l0) s (I X.length) (I i) h) fun _ h'=>St X.length h':=by
 intro m;induction m with
 | zero=>intro i h hm;omega
 | succ m C=>
  intro i h hm T st;rw[Cx];simp only[I,Ac,Aa];by_cases a:i<X.length
  ·have:decide ((i:Int)<(X.length:Int))=true:=by simp;omega
   simp only[this,Aa,Ia];have r:=row _ _ st;have e1:Ke X.flatten (i*64) 64=some X[i]:=qu (n:=64) _ _ _ (fun x p=>(hX x p).1) (aF a);rw[r.ix a,Cd (r.block a_) rfl e1];have p:=aF a;have t:=(hX _ (aZ a)).1;generalize X[i]=x at p t⊢
   try simp only[Aa]
   refine Ok.mk (by simp) t fun u D e3 _=>?_
   rw[Cd e3 rfl (Ai t)];have J:P0 (Ag TT disp K e false) (Ag TT disp K e true) (.U5 l0) [.int .i64 (i:Int),.agg x] u=Ag TT disp K e true l0 [I i,.agg x] u:=rfl;rw[J];refine(Dr i x u p (ext _ _ _ st D)).Al ?_;rintro _ h4 ⟨rfl,M⟩;simp only[Aa,H5,Ac];rw[Ci,show((i:Nat):Int)+1=((i+1:Nat):Int) from a_];exact C (i+1) h4 a_ a_ M
  ·have:decide ((i:Int)<(X.length:Int))=false:=by simp;omega
   obtain rfl:i=X.length:=a_
   simp only[this,Aa];exact .ret st
theorem ps4:(Eb TT 4 1).2.1 = [99,100]:=by kernel_rfl
structure vt(h0 h:Ab)(l0 a15 d0:Nat)(tm:Ba)(X:List (List EV))(i:Nat):Prop where
 x:Ext h0 h
 hb:HB h
 lp:h.get l0=some (Au TT 4 140 1 tm .ready none d0)
 row:∃sx qx,h.get a15=some (.cells [sx] 63)/\Bu h sx qx 32 64 i (X.take i).flatten/\(0<i->h0.next<=qx/\qx≠a15/\qx≠l0)
section
variable (A:Ca disp)(hK:10000<K){l0 d0:Nat}{X:List (List EV)}(hX:Asm X)(hn:X.length<=64)(l1:h0.next<=l0)(l2:h0.next<=a15)(t15:tmp tm 15=.ptr a15 0)
include A hK hX hn l1 l2 t15
theorem Bkn {e:Nat}(he:3<=e){x:List EV}(hx:X[i]? = some x)(S:vt h0 h l0 a15 d0 tm X i)(gd:h.get d0=some (.deferred true)):Ok (Ag TT disp K (e+1) true l0 [I i,.agg x] h) fun v h'=>v=.bool true/\vt h0 h' l0 a15 d0 tm X (i+1)/\Aw (fun j=>h0.next<=j/\j≠d0) h h':=by
 obtain⟨hi,ex⟩:=bA.1 hx;have xl:x.length=64:=by rw[<-ex];exact(hX _ (aZ hi)).1
 have p:=S.lp;unfold Au at p;rw[ps4]at p;rw[Ub A a_ tm h (I i) (.agg x) p,t15];simp only[Ng,Aa];refine Ok.mk (by simp) xl fun t C g3 n3=>?_
 have D:=C.hb S.hb;have q0:=C.at S.hb S.lp;have l3:=D _ _ q0;rw[T6 q0];obtain⟨sx,qx,gx,rx,J⟩:=S.row;have af:0<i->qx≠d0:=fun y=>Av (rx.block y) gd (by intro z;cases z)
 have M:a15≠d0:=Av gx gd (by intro z;cases z);have nd:l0≠d0:=Av S.lp gd (by simp[Au]);have n15:a15≠l0:=Av gx S.lp (by simp[Au]);have ll:=S.hb _ _ S.lp;have g4:(t.put l0 (Au TT 4 140 1 tm .busy none d0)).get a15=some (.cells [sx] 63):=by rw[Ae _ n15.symm];exact C.at S.hb gx
 have g5:(t.put l0 (Au TT 4 140 1 tm .busy none d0)).get h.next=some (.cells x 32):=by rw[Ae _ (show l0≠h.next from a_)];exact g3
 have g6:(t.put l0 (Au TT 4 140 1 tm .busy none d0)).get l0=some (Au TT 4 140 1 tm .busy none d0):=Af _ _ _;have r4:Bu (t.put l0 (Au TT 4 140 1 tm .busy none d0)) sx qx 32 64 i (X.take i).flatten:=rx.frame fun y=>by
  rw[Ae _ (J y).2.2.symm];exact C.get _ (S.hb _ _ (rx.block y)) id
 have a:=D.put l3 (Au TT 4 140 1 tm .busy none d0);have x4:Ext h0 (t.put l0 (Au TT 4 140 1 tm .busy none d0)):=(S.x.trans C).Ao (.inr l1) l3 _;have T:Aw (fun j=>h0.next<=j/\j≠d0) h (t.put l0 (Au TT 4 140 1 tm .busy none d0)):=(Ext.to C).Ao (.inl ⟨l1,nd⟩) l3 _;generalize t.put l0 (Au TT 4 140 1 tm .busy none d0)=h4 at g4 g5 g6 r4 a x4 T⊢;simp only[Ko,Aa];rw[Ak g4 rfl (v:=sx) rfl,Cd g5 rfl (Ai xl)]
 try simp only[Aa]
 refine Kv r4 a rfl (by simp) xl a_ a_ ?_;intro h5 U n5 V;have u:=V.hb a;have Z:=V.at a g4 fun y=>(J y.1).2.1 y.2.symm
 have aa:=V.at a g6 fun y=>(J y.1).2.2 y.2.symm
 have x5:Ext h0 h5:=x4.then V fun j hj hl=>by have:=(J hj.1).1;have:=hj.2;omega
 have t4:=x4.next
 have a4:=a _ _ g4;have a6:=a _ _ g6
 try simp only[Aa]
 refine Ok.Z7 Z rfl rfl (by show 0<1;decide) ?_;have l5:=u _ _ Z;have l6:=u _ _ aa;rw[Pf (show(h5.put a15 _).get l0=some (Au TT 4 140 1 tm .busy none d0) by rw[Ae _ n15];exact aa)];have ch:Aw (fun j=>h0.next<=j/\j≠d0) h h5:=T.trans (V.mono fun j hj=>by obtain⟨y,rfl⟩:=hj;exact⟨(J y).1,af y⟩);refine .ret ⟨rfl,⟨(x5.Ao (.inr l2) l5 _).Ao (.inr l1) l6 _,(u.put l5 _).put l6 _,Af _ _ _,_,h4.next+1,by rw[Ae _ n15.symm];exact Af _ _ _,?_,fun _=>⟨a_,a_,a_⟩⟩,(ch.Ao (.inl ⟨l2,M⟩) l5 _).Ao (.inl ⟨l1,nd⟩) l6 _⟩;have et:(X.take (i+1)).flatten=(X.take i).flatten++x:=by
  rw[bV hi,cm,ex];simp
 rw[et];exact U.frame fun _=>by rw[Ae _ (show l0≠h4.next+1 from a_),Ae _ (show a15≠h4.next+1 from a_)]
end
end
section
structure Kq(h0 h:Ab)(N:Nat)(B:Cb)(X:Co)(a4:Nat)(ds:List Nat)(G:Nat->Prop):Prop where
 C:Ex h B X G
 lN:∀j,j<N->G j
 nn:N<=h.next
 k:∀j,j<N->h.get j=h0.get j
 g4:h.get a4=some (.cells [.bool false] 4)
 G4:G a4
 n4:N<=a4
 dd:∀d∈ds,G d/\N<=d/\h.get d=some (.deferred true)
 nd:ds.Nodup
section
variable{N:Nat}{X:Co}
theorem Kq.to(z:Kq h0 h N B X a4 ds G)(c:Gr h h' B X G Y):Kq h0 h' N B Y a4 ds G:=
 ⟨c.C,z.lN,bN z.nn c.k.next,fun j hj=>(c.k.get j (by have:=z.nn;omega) fun y=>y (z.lN j hj)).trans (z.k j hj),c.k.at z.C.hb z.g4 z.G4,z.G4,z.n4,fun d hd=>⟨(z.dd d hd).1,(z.dd d hd).2.1,c.k.at z.C.hb (z.dd d hd).2.2 (z.dd d hd).1⟩,z.nd⟩
theorem Kq.ext(z:Kq h0 h N B X a4 ds G)(x:Ext h h'):Kq h0 h' N B X a4 ds (Bg G h h'):=
 ⟨z.C.ext x,fun j hj=>.inl (z.lN j hj),bN z.nn x.next,fun j hj=>(x.get j (by have:=z.nn;omega) id).trans (z.k j hj),x.at z.C.hb z.g4,.inl z.G4,z.n4,fun d hd=>⟨.inl (z.dd d hd).1,(z.dd d hd).2.1,x.at z.C.hb (z.dd d hd).2.2⟩,z.nd⟩
theorem Kq.loop(z:Kq h0 h N B X a4 ds G)(x:Ext h h')(hd:h.next<=d)(g:h'.get d=some (.deferred true)):Kq h0 h' N B X a4 (d::ds) (Bg G h h'):=by
 have y:=z.ext x;refine⟨y.C,y.lN,y.nn,y.k,y.g4,y.G4,y.n4,fun e he=>?_,cj.2 ⟨fun m=>?_,y.nd⟩⟩
 ·rcases bc.1 he with rfl|he
  ·exact⟨.inr ⟨hd,y.C.hb _ _ g⟩,bN z.nn hd,g⟩
  ·exact y.dd e he
 ·have:=z.C.hb _ _ (z.dd _ m).2.2
  omega
theorem yM(hb:HB h)(g4:h.get a4=some (.cells [.bool true] 4))(nn:N<=h.next)(k:∀j,j<N->h.get j=h0.get j)(dd:∀d∈ds,N<=d/\h.get d=some (.deferred true))(nd:ds.Nodup)(kk:∀h',(∀j,j<N->h'.get j=h0.get j)->Q (.bool true) h'):Ok (Dt ds h fun h=>Gi TT [.c (.ptr a4 0) 4] h) Q:=by
 have ne:∀d∈ds,d≠a4:=fun d hd=>Av (dd d hd).2 g4 (by intro y;cases y)
 refine Ok.unwind nd (fun d hd=>(dd d hd).2) hb fun p a _=>?_
 have t:p.get a4=some (.cells [.bool true] 4):=Aw.at a hb g4 fun y=>ne a4 y rfl
 rw[pj t];refine .ret (kk _ fun j hj=>?_);rw[a.get j a_ fun y=>by have:=(dd j y).1;omega];exact k j hj
theorem yN(z:Kq h0 h N B X a4 ds G)(kk:∀h',(∀j,j<N->h'.get j=h0.get j)->Q (.bool true) h'):Ok (Vz 1 (.ptr a4 0) (.bool true) h fun h=>Dt ds h fun h=>Gi TT [.c (.ptr a4 0) 4] h) Q:=by
 have l4:=z.C.hb _ _ z.g4;have n4:=z.n4;refine Ok.Z7 z.g4 rfl rfl (by show 0<1;decide) ?_;have ne:∀d∈ds,d≠a4:=fun d hd=>Av (z.dd d hd).2.2 z.g4 (by intro y;cases y)
 exact yM (z.C.hb.put l4 _) (Af _ _ _) z.nn (fun j hj=>by rw[Ae _ (show a4≠j from a_)];exact z.k j hj) (fun d hd=>⟨(z.dd d hd).2.1,by rw[Ae _ (cn (ne d hd))];exact(z.dd d hd).2.2⟩) z.nd kk
end
theorem Btv:(Eb TT 4 0).2.1 = [48]:=by kernel_rfl
section
variable (A:Ca disp){N:Nat}{X:Co}
include A
theorem A61(hK:10000<K)(z:Kq h0 h N B X a4 ds G)(t4:tmp tm 4=.ptr a4 0){qc c:Nat}(hw:∀e∈X.S.dr.ev,e.Wf)(row:Bu h cs qc 34 68 X.S.dr.ev.length (X.S.dr.ev.map Le.cells).flatten)(gc:h.get c=some (.cells [cs] 115))(hd:5<=d)
 (kk:∀h',(∀j,j<N->h'.get j=h0.get j)->Q (.bool true) h') (nx:X.S.dr.ev = []->∀h',Ext h h'->h'.get h.next=some (.deferred true)->Ok (k h' (h.next::ds)) Q) :
 Ok (P9 (Ag TT disp K d false) TT 4 140 0 (.func 90 [] [.ptr c 0]) tm h ds k ex (fun h ds=>Dt ds h fun h=>Gi TT [.c (.ptr a4 0) 4] h)) Q:=by
 obtain⟨e,rfl⟩:∃k,d=k+2:=⟨d-2,a_⟩;obtain⟨K',rfl⟩:=d_ K;refine Ok.range ?_;have M:Ext h (Bn TT 4 140 0 tm h):=Ga;have k0:(Bn TT 4 140 0 tm h).get h.next=some (.deferred true):=Gw
 have Z:(Bn TT 4 140 0 tm h).get (h.next+1)=some (Au TT 4 140 0 tm .ready none h.next):=F3;generalize Bn TT 4 140 0 tm h=h3 at M k0 Z⊢;have hb:=z.C.hb;have a:=M.hb hb;have l1:=a _ _ Z;rw[Ql A (cO _)];simp only[J2];rw[Ak (M.at hb gc) rfl (v:=cs) rfl];have r3:=row.frame (h':=h3) fun y=>M.get _ (hb _ _ (row.block y)) id
 try simp only[Aa]
 rw[r3.Fz,Dy];simp only[I,Ac];by_cases p:0<X.S.dr.ev.length
 case neg=>
  have:decide ((0:Int)<(X.S.dr.ev.length:Int))=false:=aS a_;simp only[this,Aa];refine .ret (.inl ⟨Z,nx (cY a_) _ (M.Ao (.inr a_) l1 _) ?_⟩);rw[Ae _ (show h.next+1≠h.next from a_)];exact k0
 have:decide ((0:Int)<(X.S.dr.ev.length:Int))=true:=aQ a_;simp only[this,Aa,I7];have el:=Le.Ay (hw _ (aZ p));have e1:Ke (X.S.dr.ev.map Le.cells).flatten (0*68) 68=some X.S.dr.ev[0].cells:=qu (n:=68) _ _ _ (fun x hx=>by obtain⟨e,he,rfl⟩:=b9.1 hx;exact Le.Ay (hw e he)) (by rw[aY,aF p];rfl);rw[show ∀k:EV->R,Ve 68 cs (.int .i64 0) k=k (.ptr qc (0*68))from fun k=>r3.ix p .i64 k,Cd (r3.block p) rfl e1];generalize X.S.dr.ev[0]=ev at el
 try simp only[Aa]
 refine Ok.mk (by simp) el fun h4 x4 g4 _=>?_
 rw[Cd g4 rfl (Ai el)];have u:=x4.hb a;have D:=x4.at a Z;have l4:=u _ _ D;have J:=D;unfold Au at J;rw[Btv]at J;have hc:P0 (Ag TT disp (K'+1) (e+1) false) (Ag TT disp (K'+1) (e+1) true) (.U5 (h.next+1)) [.agg ev.cells] h4=Ag TT disp (K'+1) (e+1) true (h.next+1) [.agg ev.cells] h4:=rfl;rw[hc,Ty A a_ tm h4 (.agg ev.cells) J,t4];simp only[Nh];rw[T6 D];simp only[Kn];have T:=M.trans x4;have U:=Ext.at T hb z.g4;have t:a4≠h.next+1:=by have:=hb _ _ z.g4;omega
 have la:=u _ _ U;have nn:=z.nn;have n4:=z.n4;refine Ok.Al (P:=fun v h'=>v=.bool false/\h'.get (h.next+1)=some (Au TT 4 140 0 tm .done (some .ret) h.next)/\h'.get a4=some (.cells [.bool true] 4)/\HB h'/\Aw (fun j=>j=a4) h h'/\h'.get h.next=some (.deferred true)) ?_ ?_
 ·refine Ok.Z7 (show(h4.put (h.next+1) _).get a4=some (.cells [.bool false] 4) by rw[Ae _ t.symm];exact U) rfl rfl (by show 0<1;decide) ?_
  rw[Pf (show((h4.put (h.next+1) (Au TT 4 140 0 tm .busy none h.next)).put a4 _).get (h.next+1)=some (Au TT 4 140 0 tm .busy none h.next) by rw[Ae _ t];exact Af _ _ _)];have af:=u.put l4 (Au TT 4 140 0 tm .busy none h.next);have ag:=af.put (show a4<(h4.put (h.next+1) (Au TT 4 140 0 tm .busy none h.next)).next from la) (.cells ([EV.bool false].set 0 (.bool true)) 4);refine .ret ⟨rfl,Af _ _ _,by rw[Ae _ t.symm];exact Af _ _ _,ag.put (show h.next+1<_ from l4) _,((((Ext.to T:Aw (fun j=>j=a4) h h4).Ao (.inr a_) l4 _).Ao (.inl rfl) (show a4<_ from la) _).Ao (.inr a_) (show h.next+1<_ from l4) _),?_⟩;rw[Ae _ (show h.next+1≠h.next from a_),Ae _ (show a4≠h.next by have:=hb _ _ z.g4;omega),Ae _ (show h.next+1≠h.next from a_)];exact x4.at a k0
 ·rintro _ h7 ⟨rfl,kd,ka,V,ch,kz⟩
  simp only[Aa];have l7:=V _ _ kd;refine .ret (.inr ⟨kd,?_⟩);have tn:=ch.next
  have Hb:∀j o,h.get j=some o->j≠a4->(h7.put (h.next+1) (Au TT 4 140 0 tm .exhausted (some .ret) h.next)).get j=some o:=fun j o g n=>by
   rw[Ae _ (show h.next+1≠j by have:=hb _ _ g;omega)];exact ch.at hb g n
  refine yM (h0:=h0) (N:=N) (V.put l7 _) (by rw[Ae _ t.symm];exact ka) (by rw[Ab.Nz];omega) (fun j hj=>?_) (fun d hd=>?_) (cj.2 ⟨fun m=>by have:=hb _ _ (z.dd _ m).2.2;omega,z.nd⟩) kk
  ·rw[Ae _ (show h.next+1≠j from a_),ch.get j a_ (by show ¬j=a4;omega)];exact z.k j hj
  ·rcases bc.1 hd with rfl|hd
   ·exact⟨nn,by rw[Ae _ (show h.next+1≠h.next from a_)];exact kz⟩
   ·exact⟨(z.dd d hd).2.1,Hb _ _ (z.dd d hd).2.2 (Av (z.dd d hd).2.2 z.g4 (by intro y;cases y))⟩
theorem Bcg(hK:10000<K)(C:HB h0)(x0:Ext h0 h){c:Nat}{s:EV}{X:List (List EV)}(hX:Asm X)(hn:X.length<=64)(row:Bu h s q 32 64 X.length X.flatten)(rl:0<X.length->q<h0.next)(gc:h.get c=some (.cells [s] 63))(t15:tmp tm 15=.ptr a15 0)(D:h0.next<=a15)(t:h.get a15=some (.cells [.An] 63))(hd:6<=d){ret:Ab->List Nat->R}
 (nx:∀h' sx qx,Ext h0 h'->h'.get h.next=some (.deferred true)->h'.get a15=some (.cells [sx] 63)->Bu h' sx qx 32 64 X.length X.flatten->Ok (k h' (h.next::ds)) Q) :
 Ok (P9 (Ag TT disp K d false) TT 4 140 1 (.func 144 [] [.ptr c 0]) tm h ds k ex ret) Q:=by
 obtain⟨e,rfl⟩:∃k,d=k+3:=⟨d-3,a_⟩;refine Ok.range ?_;have a:Ext h (Bn TT 4 140 1 tm h):=Ga;have V:(Bn TT 4 140 1 tm h).get h.next=some (.deferred true):=Gw
 have J:(Bn TT 4 140 1 tm h).get (h.next+1)=some (Au TT 4 140 1 tm .ready none h.next):=F3;generalize Bn TT 4 140 1 tm h=M at a V J⊢;have hb:=x0.hb C;have u:=a.hb hb;have l1:=u _ _ J;have t0:=x0.next
 rw[Py A (cO _)];simp only[Jx];rw[Ak (a.at hb gc) rfl (v:=s) rfl];have Z:=row.frame (h':=M) fun y=>a.get _ (hb _ _ (row.block y)) id
 try simp only[Aa]
 rw[Z.Fz];have S0:vt h0 M (h.next+1) a15 h.next tm X 0:=⟨x0.trans a,u,J,.An,0,a.at hb t,Bu.nil _ _ _ _,fun y=>absurd y (bU _)⟩
 refine(Ble (K:=K) (disp:=disp) (e:=e+2) (l0:=h.next+1) hX hn (St:=fun i h'=>vt h0 h' (h.next+1) a15 h.next tm X i/\Bu h' s q 32 64 X.length X.flatten/\h'.get h.next=some (.deferred true)) (fun _ _ st=>st.1.hb) (fun _ _ st=>st.2.1) (fun i h1 h2 st x=>?_) (fun i x h1 hx st=>?_) K 0 M a_ (cO _) ⟨S0,Z,V⟩).mono ?_
 ·obtain⟨st,r,p⟩:=st
  obtain⟨sx,qx,T,rx,U⟩:=st.row;exact⟨⟨st.x.trans x,x.hb st.hb,x.at st.hb st.lp,sx,qx,x.at st.hb T,rx.frame fun y=>x.get _ (st.hb _ _ (rx.block y)) id,U⟩,r.frame fun y=>x.get _ (st.hb _ _ (r.block y)) id,x.at st.hb p⟩
 ·obtain⟨st,r,p⟩:=st
  refine(Bkn A hK hX hn (l0:=h.next+1) a_ D t15 a_ hx st p).mono ?_;rintro v h2 ⟨rfl,s2,k2⟩;exact⟨rfl,s2,r.frame fun y=>by have:=rl y;rw[k2.get _ (st.hb _ _ (r.block y)) fun z=>by have:=z.1;omega],k2.at st.hb p fun y=>y.2 rfl⟩
 ·rintro _ h4 ⟨st,_,p⟩
  obtain⟨sx,qx,T,rx,U⟩:=st.row;have l4:=st.hb _ _ st.lp;rw[cF]at rx;have n15:a15≠h.next+1:=by have:=hb _ _ t;omega
  refine .inl ⟨st.lp,nx _ sx qx (st.x.Ao (.inr a_) l4 _) (by rw[Ae _ (show h.next+1≠h.next from a_)];exact p) (by rw[Ae _ n15.symm];exact T) (rx.frame fun y=>by rw[Ae _ (U y).2.2.symm])⟩
end
end
section
section
variable (A:Ca disp)(hK:10000<K){N:Nat}{X:Co}(kk:∀h',(∀j,j<N->h'.get j=h0.get j)->Q (.bool true) h')
include A hK kk
theorem Btc(hd:10<=d){k:Nat}(k2:2<=k)(hn:X.S.g.D*X.S.g.Z=n)(nd:∀w:Nat,w<n->X.dead w=false):∀(f w:Nat) (h:Ab) (tm:Ba) (ds:List Nat) (G:Nat->Prop),n-w<f->w<=n->Kq h0 h N B X a4 ds G ->
 Ok (Cu (Ag TT disp K d false) (Ag TT disp K d true) K f tm (.ptr a4 0) (.ptr B.c 0) (I k) (I n) (I w) h ds) Q:=by
 intro f;induction f with
 | zero=>intro w h tm ds G T;omega
 | succ f U=>
  intro w h tm ds G T hw z;have bd:=z.C.sm.jO;rw[Cu];have wi:∀k:EV->R,Jk Iz (bin TT .lss 3) (I w) (I n) k=k (.bool (decide ((w:Int)<(n:Int)))):=fun k=>by simp only[I,Ac]
  dsimp only;simp only[Aa];rw[wi];by_cases J:w<n
  case neg=>
   have:decide ((w:Int)<(n:Int))=false:=by simp;omega
   simp only[this,Aa,H2];have V:∀a:EV->R,Jk mV (bin TT .geq 3) (I k) (.int .i64 2) a=a (.bool true):=fun a=>by
    simp only[I,Ac];rw[aQ (show(k:Int)≥2 from a_)]
   rw[V];exact yN z kk
  have:decide ((w:Int)<(n:Int))=true:=by simp;omega
  simp only[this,Aa,Ni];refine(tt A hK z.C (d:=d) a_ (z:=w) ⟨a_,a_⟩).Al ?_;rintro _ h2 ⟨rfl,q2⟩;have u:=z.to (z.C.rd q2);have p:∀h' t,Kq h0 h' N B X a4 ds G->Ok (H0 (Ag TT disp K d false) (Ag TT disp K d true) K (Cu (Ag TT disp K d false) (Ag TT disp K d true) K f) t (.ptr a4 0) (.ptr B.c 0) (I k) (I n) (I w) h' ds) Q:=fun h' t z'=>by
   simp only[H0,I,Ac,Aa];rw[Ci,show((w:Nat):Int)+1=((w+1:Nat):Int) from a_];exact U (w+1) h' _ ds G a_ a_ z'
  have M:=nd w J;unfold Co.dead at M;cases hc:X.closed (w:Int)with
  | false=>
   simp only[Aa,Ac,Ff];exact p h2 _ u
  | true=>
   rw[hc,bF]at M;simp only[Aa,Rf];rw[u.C.jh];simp only[Aa];rw[sR u.C.map,Aq];have wl:∀a:EV->R,Jk iD (bin TT .eql 3) (I (lP X.S.g X.es (w:Int))) (.int .i64 0) a=a (.bool (decide (lP X.S.g X.es (w:Int)=0))):=fun a=>by simp only[I,Ac]
   rw[wl,M];simp only[Aa,Ac,Ff];exact p h2 _ u
end
end
section
theorem A2f{ar:Nat}{cur Cn:Nat->Int}(g:h.get ar=some (.cells (arC m cur Cn) 126))(a:i<3):Pu K (.ptr ar 0) (I i) h=some (.tuple [I (cur i),I (Cn i)],h):=by
 simp only[Pu,CQ a,Aa,Ac,MX];unfold I;rw[Vo a]
 try simp only[Aa]
 rw[Ak g rfl (v:=I (cur i)) (by rw[dI];exact BS a),Vo a]
 try simp only[Aa]
 rw[Ak g rfl (v:=I (Cn i)) (BR a)]
section
variable (A:Ca disp)(hK:3000000<K){N:Nat}{X:Co}{lG:Nat}{v2:EV}
include A hK
theorem SS(hd:12<=d){k:Nat}(z:Kq h0 h N B X a4 ds G)(Z:h.get lG=some (.cells [I X.gen,I X.ep,I X.nx,.ptr B.b 0] 58))(sn:snR X.gen X.ep X.nx X.es=true)(al:X.cur i = -1\/D4 X.S.g (X.cur i)=i){Y:List (List EV)}(gx:h.get a15=some (.cells [sx] 63))(rx:Bu h sx qx 32 64 Y.length Y.flatten)(hY:Asm Y)(hn:Y.length<=64)(eY:ku X.es X.gen X.ep X.nx X.S X.cur i->Y=Bn2 X.S.g X.es X.gen X.ep X.nx (X.cur i))
 (nx:∀h' aa (V:Nat),Ext h h'->(V=k\/V=k+1)->(ku X.es X.gen X.ep X.nx X.S X.cur i->V=k+1)->Ok (Dg (Ag TT disp K d false) (Ag TT disp K d true) K SD aa v2 (.ptr a4 0) (.ptr B.c 0) (.ptr lG 0) (I V) (I i) h' ds) Q) (hk:k<=3:=by omega) :
 Ok (E7 (Ag TT disp K d false) (Ag TT disp K d true) K SD tm v2 (.ptr a4 0) (.ptr B.c 0) (.ptr lG 0) (I k) (I (X.cur i)) (.ptr a15 0) (I i) h ds) Q:=by
 have hb:=z.C.hb;have sm:=z.C.sm;have ab:=hb _ _ gx;simp only[E7,Aa,Ar];rw[wW (v:=U1) (by kernel_rfl) (by kernel_rfl) rfl]
 try simp only[Aa,Ar]
 rw[I6 ab,Ak gx rfl (v:=sx) rfl]
 try simp only[Aa,Ar]
 refine Ok.bE (Bn5 (K:=K) A a_ (zn:=X.cur i) hY a_ (d:=d) a_ (rx.frame (h':=h.lift) fun _=>Bv _ _) (Cz hb)) (fun _ _ p=>p.x) ?_;rintro v au h2 P u x2;have M:=x2.hb hb;have no:ku X.es X.gen X.ep X.nx X.S X.cur i->Pa X.S.g X.es X.gen X.ep X.nx (X.cur i) Y:=fun J=>by
  have dm:=tq sm J.1;exact⟨_,⟨z.C.wf.rt,z.C.map.ok,z.C.map.len,sn,dm.1,dm.2,rfl⟩,eY J⟩
 rcases P.r with⟨rfl,bad⟩|⟨g,E,x,y,w,p,ml,ll,rfl,m,hr,ae,ex⟩
 ·simp only[Aa,Ar]
  rw[Hc];refine Ok.mk rfl rfl fun h3 T g3 _=>?_
  simp only[I,Ac,show ¬((10:Int)=0) from c_,aA,Aa,Fc];exact nx h3 _ k (x2.trans T) (.inl rfl) fun J=>absurd (no J) (bad _ _ _ _ _)
 ·simp only[Aa,Ar]
  rw[Hc];refine Ok.mk rfl rfl fun h3 T g3 _=>?_
  have ag:=T.hb M;have D:=x2.trans T;simp only[I,Ac,aB,Aa];rw[Cv g3 rfl,Ai (n:=4) rfl];simp only[Aa];rw[Cv (Ext.at D hb Z) rfl,Ai (n:=4) rfl];simp only[Aa];have m3:=(m.frame (h':=h2) (u.get _) (u.get _) (u.get _)).ext fun i o q=>T.at M q
  have mz:=z.C.map.ext (h':=h3) fun i o q=>Ext.at D hb q
  refine(Bps A (K:=K) a_ (d:=d) a_ ag hr m3 ae z.C.wf.rt mz sn).Al ?_;rintro _ h4 ⟨t,rfl,x4,az,ht⟩;have U:=D.trans x4;simp only[Ac,Fc];cases t with
  | true=>
   simp only[Aa,Ac];rw[Ci (n:=(k:Int)+1),show((k:Nat):Int)+1=((k+1:Nat):Int) from a_];exact nx h4 _ (k+1) U (.inr rfl) fun _=>rfl
  | false=>
   simp only[Aa,Ac];refine nx h4 _ k U (.inl rfl) fun J=>?_
   obtain⟨a,b,c,e,f⟩:=ex _ _ _ _ _ (no J);exact absurd (ht a.symm b.symm c.symm e.symm f.symm) c_
end
end
section
section
variable (A:Ca disp)(hK:3000000<K){N:Nat}{X:Co}{lG:Nat}(kk:∀h',(∀j,j<N->h'.get j=h0.get j)->Q (.bool true) h')
include A
theorem Bh6(hb:HB h)(hd:3<=d){ret:Ab->List Nat->R}(nx:∀h',Ext h h'->h'.get h.next=some (.deferred true)->Ok (k h' (h.next::ds)) Q):
 Ok (P9 (Ag TT disp K d false) TT 4 140 1 (.func 59 [] []) tm h ds k ex ret) Q:=by
 refine Ok.range ?_;have a:Ext h (Bn TT 4 140 1 tm h):=Ga;have t:(Bn TT 4 140 1 tm h).get h.next=some (.deferred true):=Gw
 have p:(Bn TT 4 140 1 tm h).get (h.next+1)=some (Au TT 4 140 1 tm .ready none h.next):=F3;generalize Bn TT 4 140 1 tm h=u at a t p⊢;have l1:=(a.hb hb) _ _ p;rw[Al1 A a_];simp only[NC];refine .ret (.inl ⟨p,nx _ (a.Ao (.inr a_) l1 _) ?_⟩);rw[Ae _ (show h.next+1≠h.next from a_)];exact t
include hK kk
theorem Bq9(hd:12<=d)(sn:snR X.gen X.ep X.nx X.es=true){J:Nat->Bool}(hJ:∀j,j<3->J j=true->ku X.es X.gen X.ep X.nx X.S X.cur j)(c2:2<=kv J 3)(nd:∀w:Nat,(w:Int)<X.S.g.D*X.S.g.Z->X.dead w=false):∀(f i k:Nat) (h:Ab) (tm:Ba) (ds:List Nat) (G:Nat->Prop),3-i<f->i<=3->kv J i<=k->k<=i->Kq h0 h N B X a4 ds G->h.get a2=some (.cells (gL X.S.g) 23)->G a2->h.get lG=some (.cells [I X.gen,I X.ep,I X.nx,.ptr B.b 0] 58)->G lG ->
 Ok (Cp (Ag TT disp K d false) (Ag TT disp K d true) K f tm (.ptr a2 0) (.ptr a4 0) (.ptr B.c 0) (.ptr lG 0) (I k) (I i) h ds) Q:=by
 intro f;induction f with
 | zero=>intro i k h tm ds G hf;omega
 | succ f ih=>
  intro i k h tm ds G hf hi ck ki z g2 G2 T aw;have sm:=z.C.sm;have hb:=z.C.hb;rw[Cp];have wi:∀k:EV->R,Jk Iz (bin TT .lss 3) (I i) (.int .i64 3) k=k (.bool (decide ((i:Int)<3))):=fun k=>by simp only[I,Ac]
  dsimp only;simp only[Aa];rw[wi];by_cases U:i<3
  case neg=>
   have e3:i=3:=a_
   subst e3;have:decide (((3:Nat):Int)<3)=false:=rfl;simp only[this,Aa,Fe];rw[Cd g2 rfl (Ai (n:=6) rfl),show EV.agg (gL X.S.g)=gV X.S.g from rfl,Ot sm,Aq];have x2:Ext h (h.new (.cells (gL X.S.g) 23)):=Aw.new _ _;generalize h.new (.cells (gL X.S.g) 23)=h2 at x2⊢;have bd:=sm.jO;obtain⟨n,hn⟩:=bL (show 0<=X.S.g.D*X.S.g.Z from a_);rw[hn];exact Btc A a_ kk (d:=d) a_ (n:=n) (k:=k) a_ hn (fun w hw=>nd w a_) K 0 h2 _ ds _ a_ (cO _) (z.ext x2)
  have:decide ((i:Int)<3)=true:=by simp;omega
  simp only[this,Aa,L6,Vn];rw[z.C.I6];simp only[Aa];rw[A2f z.C.ar U,Aq];simp only[Aa];have ag:=z.C.wf.an.cur i U;have go:∀h' d' a p,Ext h h'->h.next<=d'->h'.get d'=some (.deferred true)->(p=k\/p=k+1)->(ku X.es X.gen X.ep X.nx X.S X.cur i->p=k+1)->Ok (Dg (Ag TT disp K d false) (Ag TT disp K d true) K (Cp (Ag TT disp K d false) (Ag TT disp K d true) K f) a (.ptr a2 0) (.ptr a4 0) (.ptr B.c 0) (.ptr lG 0) (I p) (I i) h' (d'::ds)) Q:=fun h' d' a p x ax gd u hh=>by
   simp only[Dg,I,Ac,Aa];rw[Ci,show((i:Nat):Int)+1=((i+1:Nat):Int) from a_];refine ih (i+1) p h' _ _ _ a_ a_ ?_ a_ (z.loop x ax gd) (x.at hb g2) (.inl G2) (x.at hb T) (.inl aw);show kv J i+(if J i=true then 1 else 0)<=p;cases hj:J i with
   | true=>
    have:=hh (hJ i U hj);simp only[bM];omega
   | false=>
    simp only[aT,ak];omega
  obtain⟨h2,e_,x2,ab,n15⟩:=nW h (.cells [.An] 63);rw[e_];have z2:=z.ext x2;have t:=x2.hb hb;simp only[Hq,Aa];rw[z2.C.hH];simp only[Aa];obtain⟨D,V,qc,cs,lk⟩:=SR (K:=K) z2.C.M;rw[lk.C0,Aq,lk.device,Aq];cases hh:X.S.dr.dv.has (X.cur i)with
  | false=>
   rw[lk.no _ hh,Aq];refine Bh6 A t a_ fun h5 x5 gd=>?_
   have ad:=x2.trans x5;have z5:=z.loop ad (d:=h2.next) a_ gd;refine SS A hK a_ z5 (Ext.at ad hb T) sn ag (x5.at t ab) (qx:=0) (Y:=[]) (Bu.nil _ _ _ _) (fun x hx=>by cases hx) (cO _) (fun hx=>?_) (fun h' a p x u ae=>go h' h2.next a p (ad.trans x) a_ (x.at z5.C.hb gd) u ae);have:=hx.2.1;rw[hh]at this;cases this
  | true=>
   obtain⟨s,q,e1,row,hX,hn⟩:=lk.yes _ hh;rw[e1,Aq];have x3:Ext h2 (h2.new (.cells [s] 63)):=Aw.new _ _;have gc:(h2.new (.cells [s] 63)).get h2.next=some (.cells [s] 63):=Ad _ _
   have n3:(h2.new (.cells [s] 63)).next=h2.next+1:=rfl
   generalize h2.new (.cells [s] 63)=h3 at x3 gc n3⊢;have al:=row.frame (h':=h3) fun y=>x3.get _ (t _ _ (row.block y)) id
   have rl:0<(X.S.dr.dv.zs (X.cur i).toNat).l.length->q<h.next:=fun y=>by
    have gq:=row.block y;have:=t _ _ gq;have:q≠h.next:=Av gq ab (by intro w;cases w)
    omega
   refine Bcg A a_ hb (x2.trans x3) hX hn al rl gc (tm:=_) (a15:=h.next) (by simp only[F1];rfl) (aD _) (x3.at t ab) a_ fun h5 sx qx x5 gd gx rx=>?_
   have z5:=z.loop x5 (d:=h3.next) a_ gd;exact SS A hK a_ z5 (x5.at hb T) sn ag gx rx hX hn (fun hx=>hx.2.2) (fun h' a p x u ae=>go h' h3.next a p (x5.trans x) a_ (x.at z5.C.hb gd) u ae)
end
end
section
def nR(X:Co):List Int:=[X.gen,X.ep,X.nx]
theorem SU:TT.size 45=some 3/\TT.agg 45=some true:=⟨by kernel_rfl,by kernel_rfl⟩
theorem SV{X:Co}(C:Ex h B X F):Ok (Kg K (.ptr B.c 0) h) fun v h'=>v=.agg ((nR X).map I)/\Ext h h':=by
 simp only[Kg,Aa];have a:Ext h (h.new (.cells [.int .i64 0,.int .i64 0,.int .i64 0] 45)):=Aw.new _ _;have p:(h.new (.cells [.int .i64 0,.int .i64 0,.int .i64 0] 45)).get h.next=some (.cells [.int .i64 0,.int .i64 0,.int .i64 0] 45):=Ad _ _
 have t:(h.new (.cells [.int .i64 0,.int .i64 0,.int .i64 0] 45)).next=h.next+1:=rfl
 generalize h.new (.cells [.int .i64 0,.int .i64 0,.int .i64 0] 45)=u at a p t⊢;rw[Cd (a.at C.hb C.core) rfl (l':=(nR X).map I) rfl];refine Ok.j4 p rfl rfl ?_;rw[Rb (Af _ _ _) SU.1 SU.2 rfl];exact .ret ⟨rfl,a.Ao (.inr (aD _)) a_ _⟩
section
variable (A:Ca disp)(hK:3000000<K){N:Nat}{X:Co}(kk:∀h',(∀j,j<N->h'.get j=h0.get j)->Q (.bool true) h')
include A hK kk
theorem Brw(hd:12<=d){u:Nat}(z:Kq h0 h N B Y a4 ds G)(ck:EM X Y)(g2:h.get a2=some (.cells (gL Y.S.g) 23))(G2:G a2)(g8:h.get u=some (.cells ((nR X).map I) 45)):Ok (Hn (Ag TT disp K d false) (Ag TT disp K d true) K tm (.ptr a2 0) (.ptr a4 0) (.ptr B.c 0) (.ptr u 0) h ds) Q:=by
 have hb:=z.C.hb;simp only[Hn,Aa];refine(SV z.C).Al ?_;rintro _ h2 ⟨rfl,Z⟩;have U:=Z.hb hb;refine Ok.mk rfl rfl fun t x3 T _=>?_
 have D:=x3.hb U;have a:=Z.trans x3;have p:=Ext.at a hb g8;have z3:=z.ext a;have V:=D _ _ T;have e0:∀k:EV->R,Et (.ptr h2.next 0) t k=k (I Y.gen):=fun k=>Ak T rfl rfl
 have e1:∀k:EV->R,Et (.ptr h2.next 1) t k=k (I Y.ep):=fun k=>Ak T rfl rfl
 have e2:∀k:EV->R,Et (.ptr h2.next 2) t k=k (I Y.nx):=fun k=>Ak T rfl rfl
 have f0:∀k:EV->R,Et (.ptr u 0) t k=k (I X.gen):=fun k=>Ak p rfl rfl
 have f1:∀k:EV->R,Et (.ptr u 1) t k=k (I X.ep):=fun k=>Ak p rfl rfl
 have f2:∀k:EV->R,Et (.ptr u 2) t k=k (I X.nx):=fun k=>Ak p rfl rfl
 simp only[Aa,e0,f0,I,Ac,ck.gen,aC,aA,e1,f1,ck.ep,Hl,e2,f2,ck.nx,Hd];simp only[Mc,Aa,Ar];rw[I6 V,e0]
 try simp only[Aa,Ar]
 rw[I6 V,e1]
 try simp only[Aa,Ar]
 rw[I6 V,e2]
 try simp only[Aa,Ar]
 rw[lS (v:=.ptr B.b 0) (by simp only[Rf,Aa];rw[z3.C.lift.jh])];rw[Ax (l:=[I Y.gen,I Y.ep,I Y.nx,.ptr B.b 0]) rfl]
 try simp only[Aa,Ar]
 rw[Hc];refine Ok.mk rfl rfl fun h4 x4 M _=>?_
 have z4:=z3.ext x4;obtain⟨n,n2,J,eJ,hJ⟩:=ck.held;exact Bq9 A hK kk hd ck.sn hJ a_ ck.dead K 0 0 h4 _ ds _ a_ a_ (aD _) (aD _) z4 (x4.at D (Ext.at a hb g2)) (.inl (.inl G2)) M (.inr ⟨aD _,z4.C.hb _ _ M⟩)
theorem Br2(hd:25<=d)(z:Kq h0 h N B X a4 [] G)(t4:tmp tm 4=.ptr a4 0)(g2:h.get a2=some (.cells (gL X.S.g) 23))(G2:G a2):Ok (E5 (Ag TT disp K d false) (Ag TT disp K d true) K tm (.ptr a2 0) (.ptr a4 0) (.ptr B.c 0) h []) Q:=by
 have hb:=z.C.hb;simp only[E5,Aa];refine(SV z.C).Al ?_;rintro _ h2 ⟨rfl,x2⟩;have au:=x2.hb hb;refine Ok.mk rfl rfl fun a x3 g8 _=>?_
 have u:=x2.trans x3;have z3:=z.ext u;have p:=z3.C.hb;simp only[Hq,Aa];rw[z3.C.hH];simp only[Aa];obtain⟨D,V,qc,cs,J⟩:=SR (K:=K) z3.C.M;rw[J.C0,Aq,J.Fl,Aq];have Z:Ext a (a.new (.cells [cs] 115)):=Aw.new _ _;have gc:(a.new (.cells [cs] 115)).get a.next=some (.cells [cs] 115):=Ad _ _
 have row:=J.Bsj.frame (h':=a.new (.cells [cs] 115)) fun y=>Z.get _ (p _ _ (J.Bsj.block y)) id
 generalize a.new (.cells [cs] 115)=h4 at Z gc row⊢;have z4:=z3.ext Z;refine A61 A a_ z4 (by simp only[F1];exact t4) J.wf row gc a_ kk fun ev h5 x5 gd=>?_
 have z5:=z4.loop x5 (aD _) gd;have T:=Z.trans x5;have ae:=u.trans T;simp only[Hj];refine Ok.Al (EN A a_ z5.C (d:=d) a_) ?_;rintro _ h6 ⟨e,Y,rfl,c6,cx⟩;have z6:=z5.to c6;have G8:Bg (Bg (Bg G h a) a h4) h4 h5 h2.next:=.inl (.inl (.inr ⟨x2.next,p _ _ g8⟩))
 have U:Bg (Bg (Bg G h a) a h4) h4 h5 a2:=.inl (.inl (.inl G2));have af:=c6.k.at z5.C.hb (Ext.at T p g8) G8;have ag:=c6.k.at z5.C.hb (Ext.at ae hb g2) U;simp only[I,Ac];by_cases t:e=0
 case neg=>
  simp only[t,aH,aB,Aa];exact yN z6 kk
 simp only[t,aC,aA,Aa];exact Brw A hK kk a_ z6 (cx ev t) (by rw[c6.ck.g];exact ag) U af
end
end
theorem Bkg{N:Nat}(R0:jW h N v b L)(a:i<L.length){k:EV->EV->Ab->R}(t:∀p w h2,Ext h h2->h2.get h.next=some (.cells L[i].cells 36)->h2.next=h.next+1->Ok (k p w h2) Q):
 Ok (Ve 72 v (.int .i64 (i:Int)) fun p=>Oo 72 p h fun w=>Vz 72 (.ptr h.next 0) w (h.new (.cells (List.replicate 3 (.int .i64 0)++[.An]++List.replicate 4 (.int .i64 0)++List.replicate 64 (.int .u8 0)) 36)) (k p w)) Q:=by
 rcases R0.row with⟨rfl,_⟩|⟨_,off,u,op,rfl,_,y⟩
 ·exact absurd a (cT _)
 ·rw[Md a]
  have:=Bp9 (k:=k (.ptr b (off+i*72)) (.agg L[i].cells)) R0 a (t _ _);rw[R0.at a]at this;rw[y i a];exact this
theorem Kq.do{N:Nat}{X:Co}(z:Kq h0 h N B X a4 ds G)(c:sA h h' B X G Y):Kq h0 h' N B Y a4 ds G:=
 ⟨c.C,z.lN,bN z.nn c.k.next,fun j hj=>(c.k.get j (by have:=z.nn;omega) fun y=>y (z.lN j hj)).trans (z.k j hj),c.k.at z.C.hb z.g4 z.G4,z.G4,z.n4,fun d hd=>⟨(z.dd d hd).1,(z.dd d hd).2.1,c.k.at z.C.hb (z.dd d hd).2.2 (z.dd d hd).1⟩,z.nd⟩
section
variable (A:Ca disp)(nH:disp 89=some nG)(hK:3000000<K){N:Nat}(R0:jW h0 N v1 b O)(hL:O.length<=40)(kk:∀h',(∀j,j<N->h'.get j=h0.get j)->Q (.bool true) h')
include A nH hK R0 hL kk
theorem Bq1(hd:31<=d):∀(f i:Nat) (h:Ab) (X:Co) (tm:Ba) (G:Nat->Prop),O.length-i<f->i<=O.length->tmp tm 4=.ptr a4 0->Kq h0 h N B X a4 [] G->X.S.g=g->X.S.evs<=i->h.get a2=some (.cells (gL g) 23)->G a2 ->
 Ok (Db (Ag TT disp K d false) (Ag TT disp K d true) K f tm (.ptr a2 0) (.ptr a4 0) (.ptr B.c 0) v1 (I O.length) (I i) h []) Q:=by
 intro f;induction f with
 | zero=>intro i h X tm G hf;omega
 | succ f ih=>
  intro i h X tm G hf hi t4 z J ev T t;have hb:=z.C.hb;rw[Db];have wi:∀k:EV->R,Jk Iz (bin TT .lss 3) (I i) (I O.length) k=k (.bool (decide ((i:Int)<(O.length:Int)))):=fun k=>by simp only[I,Ac]
  dsimp only;simp only[Aa];rw[wi];by_cases a:i<O.length
  case neg=>
   have:decide ((i:Int)<(O.length:Int))=false:=by simp;omega
   simp only[this,Aa];exact Br2 A hK kk a_ z (by simp only[F1];exact t4) (by rw[J];exact T) t
  have:decide ((i:Int)<(O.length:Int))=true:=by simp;omega
  have U:=R0.frame (h':=h) z.k;simp only[this,Aa,L8];simp only[I];refine Bkg U a fun p2 w2 h2 u V n2=>?_
  obtain⟨oa,ob,Z,od⟩:=U.Ly _ (aZ a);generalize O[i]=o at oa ob Z od V;have ol:=Zf.len oa.ev;have D:=z.ext u;rw[Cd V rfl (Ai ol)];have o2:o.At h2:=⟨oa.row.frame fun y=>u.get _ (z.C.M.lt _ (.inl (z.lN _ (ob y)))) id,oa.ev,oa.pl⟩;refine Ok.Al (Bp4 (K:=K) A nH hK D.C o2 Z (fun y=>.inl (z.lN _ (ob y))) a_ od (d:=d) hd) ?_;rintro _ h3 ⟨e,Y,rfl,p⟩;have z3:=D.do p
  simp only[Mq,Aa,Ac];rw[Ci,show((i:Nat):Int)+1=((i+1:Nat):Int) from a_];refine ih (i+1) h3 Y _ _ a_ a_ (by simp only[F1];exact t4) z3 (p.g.trans J) (by have:=p.ev;omega) (p.k.at D.C.hb (u.at hb T) (.inl t)) (.inl t)
end
theorem Bf4(A:Ca disp)(nH:disp 89=some nG)(hK:3000000<K)(hd:31<=d)(h5:∀h,Ag TT disp K (d+1) false 5 [] h=some (.bool true,h))(g:Gm)(hb:HB h)(R0:jW h h.next v1 b O):
 Ok (Jv (Ag TT disp K (d+1) false) (Ag TT disp K (d+1) true) K (gV g) v1 h) fun v h'=>v=.bool true/\∀i,i<h.next->h'.get i=h.get i:=by
 simp only[Jv,gV,Aa];rw[show(h.new (.cells (gL g) 23)).next=h.next+1 from rfl];have M:Ext h ((h.new (.cells (gL g) 23)).new (.cells [.bool false] 4)):=(Aw.new _ _).Da _;have U:((h.new (.cells (gL g) 23)).new (.cells [.bool false] 4)).get h.next=some (.cells (gL g) 23):=by rw[Az _ (aO _)];exact Ad _ _
 have g4:((h.new (.cells (gL g) 23)).new (.cells [.bool false] 4)).get (h.next+1)=some (.cells [.bool false] 4):=Ad _ _;have n1:((h.new (.cells (gL g) 23)).new (.cells [.bool false] 4)).next=h.next+2:=rfl
 generalize (h.new (.cells (gL g) 23)).new (.cells [.bool false] 4)=a at M U g4 n1⊢;have p:=M.hb hb;rw[h5,Aq];simp only[Aa,Mp];rw[Cv U rfl,Ai (n:=6) rfl]
 try simp only[Aa]
 rw[show EV.agg (gL g)=gV g from rfl];refine(A47 (K:=K) A a_ (d:=d+1) a_ g p).Al ?_;rintro v h2 ⟨u,C,T⟩;have R2:jW h2 h.next v1 b O:=R0.frame fun i V=>by rw[u.get i a_ fun y=>y (show i<a.next from a_),M.get i V id]
 have aa:=u.at p U (show h.next<a.next from a_);have t:=u.at p g4 (show h.next+1<a.next from a_);have ag:Fa (.tuple []) false=false/\Fa (.tuple []) true=false:=⟨rfl,rfl⟩;have t2:=u.next
 have Hb:∀j,j<h.next->h2.get j=h.get j:=fun i V=>by rw[u.get i a_ fun y=>y (show i<a.next from a_),M.get i V id]
 have l4:=C _ _ t;by_cases hy:rtB g=true/\g.D*g.Z<=64
 case neg=>
  rw[aK hy]at T;subst T;rw[Bi1];simp only[Aa,Ac,D3];refine Ok.Z7 t rfl rfl (by show 0<1;decide) ?_;exact yM (h0:=h) (N:=h.next) (C.put l4 _) (Af _ _ _) (by rw[Ab.Nz];omega) (fun j hj=>by rw[Ae _ (show h.next+1≠j from a_)];exact Hb j hj) (fun d hd=>by cases hd) cy fun h' k=>⟨rfl,k⟩
 rw[aN hy]at T;obtain⟨B,rfl,C2,lB⟩:=T;rw[Bk8];have z:Kq h h2 h.next B (Co.start g) (h.next+1) [] (fun i=>i<a.next):=⟨C2,fun j hj=>by show j<a.next;omega,a_,Hb,t,by show h.next+1<a.next;omega,a_,(fun d hd=>by cases hd),cy⟩
 simp only[Aa,Ac];rw[R2.Fz];simp only[I,Ac];by_cases J:40<(O.length:Int)
 ·simp only[J,aB,Aa,Ac,D3]
  exact yN z fun h' k=>⟨rfl,k⟩
 simp only[J,aA,Aa,Ac,D3,Mm];rw[R2.Fz];have hg:(Co.start g).S.g=g:=(py (Tj g) (Sx g) (Mi.new g) (g.D*g.Z).toNat).2.1;have ab:(Co.start g).S.dr=(Mi.new g).dr:=(py (Tj g) (Sx g) (Mi.new g) (g.D*g.Z).toNat).2.2;exact Bq1 (K:=K) (Q:=fun v h'=>v=.bool true/\∀i,i<h.next->h'.get i=h.get i) A nH hK (h0:=h) (N:=h.next) R0 a_ (fun h' k=>⟨rfl,k⟩) (d:=d+1) a_ K 0 h2 _ _ _ a_ a_ (by simp only[F1];rfl) z hg (by unfold Mi.evs;rw[ab];exact aD _) aa (show h.next<a.next from a_)
end Go.Ev

namespace Go.Ev
end Go.Ev

namespace Go.Ev
open Go.Proofs
set_option maxRecDepth 100000
theorem Bmt {ws:List (Nat × List EV)}{off o:Nat}{l:List EV}(hm:(o,l)∈ws)(a:o<=off)(h2:off-o<l.length):∃o' l',j' ws off=some (o',l')/\(o',l')∈ws/\o'<=off/\off-o'<l'.length:=by
 induction ws with
 | nil=>cases hm
 | cons x r p=>
  obtain⟨o',l'⟩:=x;unfold j';by_cases c:o'<=off/\off-o'<l'.length
  ·refine⟨o',l',?_,aW ..,c.1,c.2⟩
   rw[aM c.1,Aj,show Nat.ble (Nat.succ (Nat.sub off o')) (len l')=true from aM (by rw[Ux];exact c.2),Aj]
  ·have t:Bb (Nat.ble o' off) (Nat.ble (Nat.succ (Nat.sub off o')) (len l')) false=false:=by
    cases hb:Nat.ble o' off with
    | false=>rfl
    | true=>
     rw[Aj];cases u:Nat.ble (Nat.succ (Nat.sub off o')) (len l')with
     | false=>rfl
     | true=>
      have y:=bG u;rw[Ux]at y;exact absurd ⟨bG hb,y⟩ c
   rw[t,Bk];rcases bc.1 hm with y|y
   ·cases y;exact absurd ⟨a,h2⟩ c
   ·obtain⟨C,l2,e1,e2,e3⟩:=p y
    exact⟨C,l2,e1,aV _ e2,e3⟩
section
open Go.ChangeShapes Go.WideShapes Go.ChangeAt Go.RowKit Go.Deep
set_option maxRecDepth 100000
theorem Brd {P:Program}{w:World}{base:Nat}{t e:TypeId}{v:Value}(p:P.underlying t=some (.slice e))(h:Value.okWide P w .any base t v):v=.slice none 0 0\/∃a len cap,v=.slice (some a) len cap/\a.spot=none/\∃row cells,w.shape? a.block=some (row,cells):=by
 unfold Value.okWide at h;rw[p]at h;simp only at h;unfold Cell.okWide at h;rw[p]at h;simp only at h;unfold Cell.ok at h;rw[p]at h;split at h<;>first|(rename_i e;cases e;done)|skip
 all_goals first|exact .inl rfl|skip
 all_goals first|(exact h.elim)|skip
 next e=>
  cases e;exact .inr ⟨_,_,_,rfl,h.2.2.2.1,by obtain⟨row,cells,hs,_⟩:=h.2.2.2.2;exact⟨row,cells,hs⟩⟩
end
section
open Go.ChangeShapes Go.WideShapes Go.ChangeAt Go.RowKit Go.Deep
set_option maxRecDepth 100000
section
variable {P:Program}{W:World}{H:Type}{enc:TypeId × Value->H}{base b2:Nat}{sp:Nat->Bool}{hd:Bool}
end
end
section
open Go.ChangeShapes Go.WideShapes Go.ChangeAt Go.RowKit Go.Deep
set_option maxRecDepth 100000
inductive Ct where
 | int (k:IntKind)
 | bool
 | str
 | row (e:TypeId)
def sE(P:Program)(rec:TypeId->Option (List Ct)):List Field->Nat->Option (List Ct)
 | [],_=>some []
 | f::r,off=>if f.offset=off then
  match rec f.type with
  | some l=>if P.cellsOf f.type=l.length then(sE P rec r (off+l.length)).map (l ++ ·)else none
  | none=>none
  else none
def qk(P:Program):Nat->TypeId->Option (List Ct)
 | 0,_=>none
 | d+1,t=>match P.underlying t with
  | some (.int k)=>some [.int k]
  | some .bool=>some [.bool]
  | some .string=>some [.str]
  | some (.slice e)=>some [.row e]
  | some (.struct a)=>match sE P (qk P d) a.toList 0 with
   | some l=>if P.cellsOf t=l.length then some l else none
   | none=>none
  | some (.array n e)=>match qk P d e with
   | some l=>if P.cellsOf e=l.length/\P.cellsOf t=n*l.length then some (List.replicate n l).flatten else none
   | none=>none
  | _=>none
def vu(P:Program):Ct->TypeId->Prop
 | .int k,t=>P.underlying t=some (.int k)
 | .bool,t=>P.underlying t=some .bool
 | .str,t=>P.underlying t=some .string
 | .row e,t=>P.underlying t=some (.slice e)
inductive Sub {H:Type} (d:DataW H):DataW H->Prop where
 | refl:Sub d d
 | agg {x:DataW H} {l:List (DataW H)}:x∈l->Sub d x->Sub d (.agg l)
 | elem {x:DataW H} {l r:List (DataW H)}:x∈l->Sub d x->Sub d (.slice l r)
theorem SW {P:Program}{rec:TypeId->Option (List Ct)}:∀{fl:List Field} {off:Nat} {p:List Ct},sE P rec fl off=some p->∀(i:Nat) c,p[i]? = some c->∃(j:Nat) (f:Field) (l:List Ct) (r:Nat),fl[j]? = some f/\rec f.type=some l/\P.cellsOf f.type=l.length/\l[r]? = some c/\f.offset+r=off+i
 | [],off,p,h,i,c,a=>by cases h;cases a
 | f::fl,off,p,h,i,c,a=>by
  unfold sE at h;split at h
  next u=>
   split at h
   next l C=>
    split at h
    next D=>
     cases hr:sE P rec fl (off+l.length)with
     | none=>rw[hr]at h;cases h
     | some J=>
      rw[hr]at h;cases h;by_cases t:i<l.length
      ·rw[cI t]at a
       exact⟨0,f,l,i,rfl,C,D,a,by rw[u]⟩
      ·rw[bm a_]at a
       obtain⟨j,f',l',r,M,h2,T,h4,U⟩:=SW hr _ c a;exact⟨j+1,f',l',r,M,h2,T,h4,a_⟩
    ·cases h
   ·cases h
  ·cases h
section
variable {P:Program}{W:World}{H:Type}{enc:TypeId × Value->H}{base:Nat}{sp:Nat->Bool}{hd:Bool}
theorem Bjy:∀(dp:Nat) {t:TypeId} {J:List Ct} {fuel:Nat} {cs:List Value} {x:DataW H × List MemPlace},qk P dp t=some J->DataW.trod enc P W base sp hd fuel t cs=some x ->
 cs.length=J.length/\∀(i:Nat) c,J[i]? = some c->∃v u C D,cs[i]? = some v/\Sub D.1 x.1/\DataW.trod enc P W base sp hd u C [v]=some D/\vu P c C:=by
 intro dp;induction dp with
 | zero=>intro t J fuel cs x h;cases h
 | succ dp ih=>
  intro t J fuel cs x p h;have one:∀{v:Value} {c:Ct},cs = [v]->J = [c]->vu P c t->cs.length=J.length/\∀(i:Nat) c,J[i]? = some c->∃v u C D,cs[i]? = some v/\Sub D.1 x.1/\DataW.trod enc P W base sp hd u C [v]=some D/\vu P c C:=fun {v c} e1 e2 e3=>by
   subst e1;subst e2;refine⟨rfl,fun i c' M=>?_⟩;cases i with
   | zero=>cases M;exact⟨v,fuel,t,x,rfl,.refl,h,e3⟩
   | succ i=>cases M
  unfold qk at p;split at p
  next k hu=>
   cases p;obtain⟨n,rfl,_,_⟩:=DataW.trod_int hu h;exact one rfl rfl hu
  next hu=>
   cases p;obtain⟨b,rfl,_⟩:=DataW.trod_bool hu h;exact one rfl rfl hu
  next hu=>
   cases p;obtain⟨b,rfl,_⟩:=DataW.trod_string hu h;exact one rfl rfl hu
  next e hu=>
   cases p;rcases DataW.trod_slice hu h with⟨rfl,_⟩|⟨a,len,cap,el,rs,n,_,rfl,_⟩
   ·exact one rfl rfl hu
   ·exact one rfl rfl hu
  next fs hu=>
   split at p
   next l hl=>
    split at p
    next hlen=>
     cases p;obtain⟨xs,n,_,rfl,T,U,hf⟩:=DataW.trod_struct hu h;refine⟨by rw[T,hlen],fun i c M=>?_⟩;obtain⟨j,f,l',r,h1,h2,h3,h4,h5⟩:=SW hl i c M;have ab:fs[j]? = some f:=by rw[<-cQ];exact h1
     have hj:j<xs.length:=by rw[U];exact(br.1 ab).1
     have g:=hf j f ab;rw[aF hj]at g;obtain⟨a1,a2⟩:=ih h2 g;obtain⟨v,fu,C,D,b1,b2,b3,b4⟩:=a2 r c h4;refine⟨v,fu,C,D,?_,.agg (b9.2 ⟨_,aZ hj,rfl⟩) b2,b3,b4⟩;have hr:=(bA.1 h4).1;rw[eD,aN (by rw[h3];exact hr),cq]at b1;rw[show i=f.offset+r from a_];exact b1
    ·cases p
   ·cases p
  next n e hu=>
   split at p
   next l hl=>
    split at p
    next V=>
     cases p;obtain⟨xs,m,_,rfl,T,U,hg⟩:=DataW.trod_array hu h;have ad:∀k,(List.replicate k l).flatten.length=k*l.length:=fun k=>by simp
     refine⟨by rw[T,V.2,ad],fun i c M=>?_⟩;have Z:=(bA.1 M).1;rw[ad]at Z;have hp:0<l.length:=Nat.pos_of_ne_zero fun y=>by rw[y]at Z;omega
     have aa:i/l.length<n:=fR (by rw[fm];exact Z);have hr:i%l.length<l.length:=Nat.mod_lt _ hp;have e1:i=i/l.length*l.length+i%l.length:=by have:=Nat.div_add_mod i l.length;rw[fm]at this;omega
     have Ly:∀(k j r:Nat),j<k->r<l.length->(List.replicate k l).flatten[j*l.length+r]? = l[r]?:=by
      intro k;induction k with
      | zero=>intro j r hj;omega
      | succ k ah=>
       intro j r hj hr;rw[dW,cJ];cases j with
       | zero=>rw[fZ,bI,cI hr]
       | succ j=>rw[bm (by rw[fJ];omega),show(j+1)*l.length+r-l.length=j*l.length+r by rw[fJ];omega];exact ah j r a_ hr
     rw[e1,Ly n _ _ aa hr]at M;have g:=hg _ aa;have hj:i/l.length<xs.length:=by rw[U];exact aa
     rw[aF hj]at g;obtain⟨a1,a2⟩:=ih hl g;obtain⟨v,fu,C,D,b1,b2,b3,b4⟩:=a2 _ c M;refine⟨v,fu,C,D,?_,.agg (b9.2 ⟨_,aZ hj,rfl⟩) b2,b3,b4⟩;rw[eD,aN (by rw[V.1];exact hr),cq,V.1]at b1;rw[e1];exact b1
    ·cases p
   ·cases p
  ·cases p
def yO(w:World)(v:Value)(n:Nat)(L:List (List Value)):Prop:=(v=.slice none 0 0/\L = [])\/∃b off cap arr e fr,v=.slice (some ⟨b,off,none⟩) L.length cap/\L.length<=cap/\w.heap[b]? = some (.cells arr e fr)/\∀(j r:Nat) (hj:j<L.length) x,r<n->L[j][r]? = some x->arr[off+(j*n+r)]? = some x
def qm(P:Program)(W:World)(enc:TypeId × Value->H)(base:Nat)(sp:Nat->Bool)(hd:Bool)(p:List Ct)(d:DataW H)(l:List Value):Prop:=
 l.length=p.length/\∀(i:Nat) c,p[i]? = some c->∃v a t u,l[i]? = some v/\Sub u.1 d/\DataW.trod enc P W base sp hd a t [v]=some u/\vu P c t
theorem Bjh {t e:TypeId}{b2 dp:Nat}{C:List Ct}{v:Value}{d:DataW H}{p:List MemPlace}(ht:P.underlying t=some (.slice e))(hc:qk P dp e=some C)(V:P.cellsOf e=C.length)
 (ho:Value.okWide P W .any base t v) (h:DataW.Trod enc P W b2 sp hd t v d p):∃L:List (List Value),yO W v C.length L/\(∀l∈L,qm P W enc b2 sp hd C d l)/\(L = []\/∃el rs,d=.slice el rs/\el.length=L.length):=by
 rcases Brd ht ho with rfl|⟨⟨b,off,spot⟩,len,cap,rfl,D,row,cells,u⟩
 ·exact⟨[],.inl ⟨rfl,rfl⟩,fun x J=>(by cases J),.inl rfl⟩
 ·obtain⟨fuel,hf⟩:=h
  simp only at D;subst D;rcases DataW.trod_slice ht hf with⟨J,_⟩|⟨a,ah,ai,el,rs,n,_,J,Z,hb,hl,hm,aa,hi,_⟩
  ·cases J
  ·cases J
   cases Z;unfold World.shape? at u;split at u
   next arr e' fr hw=>
    have each:∀i,∃l:List Value,i<len->qm P W enc b2 sp hd C (.slice (el.map (·.1)) (rs.map (·.1))) l/\∀r x,r<C.length->l[r]? = some x->arr[off+(i*C.length+r)]? = some x:=by
     intro i;by_cases U:i<len
     ·have g:=hi i U
      rw[V,aF a_]at g;cases T:W.cells? b2 (Addr.add ⟨b,off,none⟩ (i*C.length)) C.length with
      | none=>rw[T]at g;cases g
      | some cs=>
       rw[T]at g;have g:DataW.trod enc P W b2 sp hd n e cs=some el[i]:=g;obtain⟨a1,a2⟩:=Bjy dp hc g;obtain⟨_,_,ab⟩:=World.cells?_some T;refine⟨cs,fun _=>⟨⟨a1,fun j c hj=>?_⟩,fun r x hr J=>?_⟩⟩
       ·obtain⟨v,fu,t',x',b1,b2,b3,b4⟩:=a2 j c hj
        exact⟨v,fu,t',x',b1,.elem (b9.2 ⟨_,aZ a_,rfl⟩) b2,b3,b4⟩
       ·have:=ab r hr
        rw[J,eQ,eQ]at this;simp only[World.cell?,hw]at this;rw[<-Nat.add_assoc];exact this
     ·exact⟨[],fun y=>absurd y U⟩
    have F:∀i,{ l:List Value // i<len->qm P W enc b2 sp hd C (.slice (el.map (·.1)) (rs.map (·.1))) l/\∀r x,r<C.length->l[r]? = some x->arr[off+(i*C.length+r)]? = some x }:=fun i=>⟨Classical.choose (each i),Classical.choose_spec (each i)⟩
    have M:((List.range len).map fun i=>(F i).1).length=len:=by simp
    refine⟨(List.range len).map fun i=>(F i).1,.inr ⟨b,off,cap,arr,e',fr,by rw[M],by rw[M];exact hl,hw,fun j r hj x hr J=>?_⟩,fun l ad=>?_,.inr ⟨_,_,rfl,by rw[M,bT,aa]⟩⟩
    ·rw[List.getElem_map,List.getElem_range]at J
     exact((F j).2 (by rw[M]at hj;exact hj)).2 r x hr J
    ·obtain⟨i,ae,rfl⟩:=b9.1 ad
     exact((F i).2 (by simpa using ae)).1
   ·cases u
end
end
section
open Go.ChangeShapes Go.WideShapes Go.ChangeAt Go.RowKit Go.Deep
set_option maxRecDepth 100000
def evV:Value->EV
 | .int k n=>.int k n
 | .bool b=>.bool b
 | .string s=>.str s
 | .slice none _ _=>.An
 | .slice (some a) len cap=>if cap=0 then .odd a else .slice a.block a.off len cap false
 | _=>.bool false
def A8r:Loc:=⟨id,fun _=>0⟩
structure Axt(N:Nat)(V:Value):Prop where
 back:Cl A8r (evV V)=V
 ok:(evV V).ok fun i=>i<N
 one:(evV V).one=true
 pl:(evV V).plain=true/\(evV V).cells = [evV V]
structure Bm2(w:World)(x:Nat × Nat × Nat):Prop where
 Ly:∃arr e fr,w.heap[x.1]? = some (.cells arr e fr)/\∀j,j<x.2.2->∃V,arr[x.2.1+j]? = some V/\Axt w.heap.size V
def iO(arr:Array Value)(o n:Nat):List EV:=(List.range n).map fun j=>evV (arr.getD (o+j) (.bool false))
def Pe(w:World)(A:List (Nat × Nat × Nat))(b:Nat):List (Nat × List EV):=match w.heap[b]? with
 | some (.cells arr _ _)=>(A.filter fun x=>x.1 == b).map fun x=>(x.2.1,iO arr x.2.1 x.2.2)
 | _=>[]
def oX(w:World)(A:List (Nat × Nat × Nat))(b:Nat):Option Ds:=match w.heap[b]? with
 | some o=>match Pe w A b with
  | []=>none
  | ws=>some (.view ws o)
 | none=>none
noncomputable def vv(w:World)(A:List (Nat × Nat × Nat)):Nat->Tr Ds
 | 0=>.nil
 | n+1=>(vv w A n).put n (oX w A n)
noncomputable def Ahy(w:World)(A:List (Nat × Nat × Nat)):Ab:=⟨vv w A w.heap.size,w.heap.size,w.heap.size⟩
theorem SX(w:World)(A:List (Nat × Nat × Nat)):∀n i,(vv w A n).get i=if i<n then oX w A i else none
 | 0,i=>by rw[aK a_];rfl
 | n+1,i=>by
  show((vv w A n).put n (oX w A n)).get i=_;rw[Tr.get_put,SX w A n i];by_cases h:n=i
  ·subst h;rw[aN rfl,aN a_]
  ·rw[aK h]
   by_cases h2:i<n
   ·rw[aN h2,aN a_]
   ·rw[aK h2,aK a_]
theorem SY(w:World)(A:List (Nat × Nat × Nat))(i:Nat):(Ahy w A).get i=if i<w.heap.size then oX w A i else none:=SX w A _ i
theorem Bg2 {w:World}{A:List (Nat × Nat × Nat)}{b:Nat}{o:Ds}(h:oX w A b=some o):∃r,w.heap[b]? = some r/\o=.view (Pe w A b) r/\Pe w A b≠[]:=by
 unfold oX at h;split at h
 next r hr=>
  split at h
  ·cases h
  next ws a=>
   cases h;exact⟨r,hr,rfl,a⟩
 ·cases h
theorem sF {w:World}{A:List (Nat × Nat × Nat)}{b:Nat}{arr:Array Value}{e:TypeId}{fr:Nat × Nat}(h:w.heap[b]? = some (.cells arr e fr)):Pe w A b=(A.filter fun x=>x.1 == b).map fun x=>(x.2.1,iO arr x.2.1 x.2.2):=by
 unfold Pe;rw[h]
structure yP(w:World)(h:Ab):Prop where
 hok:Tw (fun i=>i<w.heap.size) h
 rep:T8 A8r h w
 hb:HB h
 next:h.next=w.heap.size
 view:∀i o,h.get i=some o->∃ws r,o=.view ws r
theorem yQ {w:World}{A:List (Nat × Nat × Nat)}(hA:∀x∈A,Bm2 w x):yP w (Ahy w A):=by
 have cs:∀i o,(Ahy w A).get i=some o->i<w.heap.size/\∃arr e fr,w.heap[i]? = some (.cells arr e fr)/\o=.view (Pe w A i) (.cells arr e fr)/\∀x∈Pe w A i,∀(j:Nat) v,x.2[j]? = some v->∃V,arr[x.1+j]? = some V/\Axt w.heap.size V/\v=evV V:=fun i o a=>by
  rw[SY]at a;split at a
  next p=>
   obtain⟨r,hr,rfl,M⟩:=Bg2 a;cases r with
   | cells arr e fr=>
    refine⟨p,arr,e,fr,hr,rfl,fun x t j v hj=>?_⟩;rw[sF hr]at t;obtain⟨y,hy,rfl⟩:=b9.1 t;obtain⟨T,U⟩:=dZ.1 hy;have hb:y.1=i:=by simpa using U
    obtain⟨Z,e',ae,h1,h2⟩:=(hA y T).Ly;rw[hb,hr]at h1;cases h1;have C:j<y.2.2:=by
     have:=(bA.1 hj).1;unfold iO at this;simpa using this
    obtain⟨V,J,g2⟩:=h2 j C;refine⟨V,J,g2,?_⟩;unfold iO at hj;rw[aY,cL C]at hj;have hj:=ek hj;rw[<-hj];show evV (arr.getD (y.2.1+j) (.bool false))=evV V;rw[eS,J];rfl
   | _=>exact absurd (by unfold Pe;rw[hr]) M
  ·cases a
 refine⟨⟨fun i p=>p,fun i o a=>?_⟩,⟨fun i o a=>?_,fun i j o o' _ _ e=>e⟩,fun q o a=>(cs q o a).1,rfl,fun i o a=>?_⟩
 ·obtain⟨p,arr,e,fr,hr,rfl,D⟩:=cs i o a
  refine⟨p,fun x t=>⟨(Ie _ _).2 fun v u=>?_,dS.2 fun v u=>?_⟩⟩
  ·obtain⟨j,hj⟩:=fO.1 u
   obtain⟨V,_,g,rfl⟩:=D x t j v hj;exact g.ok
  ·obtain⟨j,hj⟩:=fO.1 u
   obtain⟨V,_,g,rfl⟩:=D x t j v hj;exact g.one
 ·obtain⟨p,arr,e,fr,hr,rfl,D⟩:=cs i o a
  refine⟨_,hr,rfl,arr,e,fr,rfl,fun x t j v hj=>?_⟩;obtain⟨V,J,g,rfl⟩:=D x t j v hj;rw[J,g.back]
 ·obtain⟨p,arr,e,fr,hr,rfl,D⟩:=cs i o a
  exact⟨_,_,rfl⟩
theorem A9z {P:Program}{g:Nat}{w:World}{h:Ab}(l:yP w h){args:List EV}{vs:List Value}(D:Bo A8r args=vs)(J:EV.T4 (fun i=>i<w.heap.size) args){v:EV}{V:Value}(M:∀f,Cl f v=V){h':Ab}
 (G:Good P g args h v h') (same:∀i,i<w.heap.size->h'.get i=h.get i):Calls P g vs.toArray w fun e w'=>e=.returned V/\RowKit.Below w.heap.size w w':=by
 intro cs;obtain⟨fr,f',w',hs,p,u,hm,hwf,T⟩:=G.run _ A8r w l.hok l.rep J cs;rw[D]at hs;rw[M]at u;refine⟨.returned V,w',fr,⟨rfl,hm.os,hm.tape,hm.output,hm.size,fun k U=>?_⟩,hs,p,u⟩;by_cases C:∃i o,h.get i=some o/\A8r.b i=k
 ·obtain⟨i,o,a,rfl⟩:=C
  have li:=(l.hok.get i o a).1;obtain⟨ws,r,rfl⟩:=l.view i o a;obtain⟨r1,e1,Z,_⟩:=l.rep.obj i _ a;have t:h'.get i=some (.view ws r):=by rw[same i li];exact a
  obtain⟨r2,e2,q2,_⟩:=hm.rep.obj i _ t;rw[<-(hm.agree i li).1]at e2;rw[e2,e1,Z,q2]
 ·exact hm.kept k U fun i o a e=>C ⟨i,o,a,e⟩
theorem vw(arr:Array Value)(o n:Nat):(iO arr o n).length=n:=by unfold iO;simp
theorem SZ {arr:Array Value}{o n j:Nat}{V:Value}(hj:j<n)(h:arr[o+j]? = some V):(iO arr o n)[j]? = some (evV V):=by
 unfold iO;rw[aY,cL hj];show some (evV (arr.getD (o+j) (.bool false)))=_;rw[eS,h];rfl
theorem S_ {w:World}{A:List (Nat × Nat × Nat)}{x:Nat × Nat × Nat}(t:x∈A){arr:Array Value}{e:TypeId}{fr:Nat × Nat}(h:w.heap[x.1]? = some (.cells arr e fr)):(Ahy w A).get x.1=some (.view (Pe w A x.1) (.cells arr e fr)):=by
 have p:x.1<w.heap.size:=(br.1 h).1;have hm:(x.2.1,iO arr x.2.1 x.2.2)∈Pe w A x.1:=by
  rw[sF h];exact b9.2 ⟨x,dZ.2 ⟨t,by simp⟩,rfl⟩
 rw[SY,aN p];unfold oX;rw[h];simp only;cases u:Pe w A x.1 with
 | nil=>rw[u]at hm;cases hm
 | cons a r=>rfl
theorem Brf {w:World}{A:List (Nat × Nat × Nat)}{x:Nat × Nat × Nat}(t:x∈A){arr:Array Value}{e:TypeId}{fr:Nat × Nat}(h:w.heap[x.1]? = some (.cells arr e fr)){j:Nat}(hj:j<x.2.2){V:Value}(u:arr[x.2.1+j]? = some V)(k:EV->R):
 Et (.ptr x.1 (x.2.1+j)) (Ahy w A) k=k (evV V):=by
 have hm:(x.2.1,iO arr x.2.1 x.2.2)∈Pe w A x.1:=by
  rw[sF h];exact b9.2 ⟨x,dZ.2 ⟨t,by simp⟩,rfl⟩
 obtain⟨o',l',e1,e2,e3,e4⟩:=Bmt (off:=x.2.1+j) hm a_ (by rw[vw];omega);rw[sF h]at e2;obtain⟨y,M,e5⟩:=b9.1 e2;cases e5;rw[vw]at e4;have C:Ke (iO arr y.2.1 y.2.2) (Nat.sub (x.2.1+j) y.2.1) 1=some [evV V]:=by
  have D:=SZ (n:=y.2.2) (o:=y.2.1) (j:=x.2.1+j-y.2.1) (V:=V) e4 (by rw[show y.2.1+(x.2.1+j-y.2.1)=x.2.1+j from a_];exact u);have J:=(bA.1 D);obtain⟨a,p⟩:=J;rw[E4 (by show x.2.1+j-y.2.1+1<=_;omega)];congr 1;show((iO arr y.2.1 y.2.2).drop (x.2.1+j-y.2.1)).take 1=_;rw[cv a,p];rfl
 show oB _ (kx ((Ahy w A).get x.1) (x.2.1+j) 1)=_;rw[S_ t h];show oB _ (match j' (Pe w A x.1) (x.2.1+j)with|some (o,l)=>Ke l (Nat.sub (x.2.1+j) o) 1|none=>none)=_;rw[e1];show oB _ (Ke (iO arr y.2.1 y.2.2) (Nat.sub (x.2.1+j) y.2.1) 1)=_;rw[C];rfl
theorem Bq8 {w:World}{A:List (Nat × Nat × Nat)}{x:Nat × Nat × Nat}{arr:Array Value}{e:TypeId}{fr:Nat × Nat}(h:w.heap[x.1]? = some (.cells arr e fr)){j n:Nat}(hj:j+n<=x.2.2)(hn:0<n){l:List Value}(D:l.length=n)(t:∀(r:Nat) V,l[r]? = some V->arr[x.2.1+(j+r)]? = some V)(k:EV->R):
 Oo n (.ptr x.1 (x.2.1+j)) (Ahy w (x::A)) k=k (.agg (l.map evV)):=by
 have u:Pe w (x::A) x.1=(x.2.1,iO arr x.2.1 x.2.2)::(A.filter fun y=>y.1 == x.1).map fun y=>(y.2.1,iO arr y.2.1 y.2.2):=by
  rw[sF h,List.filter_cons_of_pos (by simp)];rfl
 have a:j' (Pe w (x::A) x.1) (x.2.1+j)=some (x.2.1,iO arr x.2.1 x.2.2):=by
  rw[u];unfold j';rw[aM (show x.2.1<=x.2.1+j from a_),Aj,show Nat.ble (Nat.succ (Nat.sub (x.2.1+j) x.2.1)) (len (iO arr x.2.1 x.2.2))=true from aM (by rw[Ux,vw];show x.2.1+j-x.2.1+1<=_;omega),Aj]
 have C:Ke (iO arr x.2.1 x.2.2) (Nat.sub (x.2.1+j) x.2.1) n=some (l.map evV):=by
  rw[show Nat.sub (x.2.1+j) x.2.1=j by show x.2.1+j-x.2.1=_;omega,E4 (by rw[vw];exact hj)];congr 1;apply eR;intro r;by_cases hr:r<n
  ·have p:l[r]? = some (l[r]'(by omega)):=aF a_
   rw[eD,aN hr,cq,SZ (V:=l[r]'(by omega)) a_ (t r _ p),aY,p];rfl
  ·rw[eD,aK hr,cN (by rw[bT];omega)]
 show oB _ (kx ((Ahy w (x::A)).get x.1) (x.2.1+j) n)=_;rw[S_ (aW ..) h];show oB _ (match j' (Pe w (x::A) x.1) (x.2.1+j)with|some (o,l)=>Ke l (Nat.sub (x.2.1+j) o) n|none=>none)=_;rw[a];show oB _ (Ke (iO arr x.2.1 x.2.2) (Nat.sub (x.2.1+j) x.2.1) n)=_;rw[C];rfl
def yR(w:World)(V:Value)(L:List Int):Prop:=(L = []/\(V=.slice none 0 0\/∃a,V=.slice (some a) 0 0))\/∃b off cap arr e fr,0<cap/\V=.slice (some ⟨b,off,none⟩) L.length cap/\w.heap[b]? = some (.cells arr e fr)/\∀(j:Nat) (x:Int),L[j]? = some x->arr[off+j]? = some (.int .i64 x)
theorem yR.A53 {w:World}{V:Value}{L:List Int}(r:yR w V L):Axt w.heap.size V:=by
 rcases r with⟨_,rfl|⟨a,rfl⟩⟩|⟨b,off,cap,arr,e,fr,p,rfl,h,_⟩
 ·exact⟨rfl,trivial,rfl,rfl,rfl⟩
 ·exact⟨rfl,trivial,rfl,rfl,rfl⟩
 ·have e1:evV (.slice (some ⟨b,off,none⟩) L.length cap)=.slice b off L.length cap false:=by show(if cap=0 then EV.odd ⟨b,off,none⟩else EV.slice b off L.length cap false)=_;rw[aK a_]
  refine⟨by rw[e1];rfl,?_,by rw[e1];rfl,by rw[e1];exact⟨rfl,rfl⟩⟩;rw[e1];exact(br.1 h).1
theorem Axt.num(N:Nat)(k:IntKind)(n:Int):Axt N (.int k n):=⟨rfl,trivial,rfl,rfl,rfl⟩
theorem Bbr {P:Program}{W:World}{H:Type}{enc:TypeId × Value->H}{base:Nat}{hd:Bool}{t e:TypeId}{fuel:Nat}{V:Value}{x:DataW H × List MemPlace}(ht:P.underlying t=some (.slice e))(he:P.underlying e=some (.int .i64))(hc:P.cellsOf e=1)
 (h:DataW.trod enc P W base (fun _=>true) hd fuel t [V]=some x):∃L:List Int,yR W V L/\(L = []\/∃el rs,x.1=.slice el rs/\el.length=L.length)/\∀x∈L,-9223372036854775808<=x/\x<=9223372036854775807:=by
 rcases open_slice1 ht hc h with⟨u,_⟩|⟨a,len,cap,m,n,Vs,D,Pl,u,hb,hl,hm,J,U,hi⟩
 ·cases u
  exact⟨[],.inl ⟨rfl,.inl rfl⟩,.inl rfl,fun x u=>by cases u⟩
 ·cases u
  rw[aN rfl]at J;subst J;rcases eC m with p|p
  ·subst p
   have:len=0:=a_
   subst this;exact⟨[],.inl ⟨rfl,.inr ⟨a,rfl⟩⟩,.inl rfl,fun x u=>by cases u⟩
  ·obtain⟨b,off,spot⟩:=a
   have h0:=(hi 0 p).1;rw[show(Addr.add ⟨b,off,spot⟩ 0)=⟨b,off,spot⟩from aN rfl]at h0;unfold World.cell? at h0;split at h0
   next arr e' fr hw=>
    simp only at hw;cases spot with
    | some s=>simp at h0
    | none=>
    have each:∀i,∃y:Int,(i<m->arr[off+i]? = some (.int .i64 y))/\-9223372036854775808<=y/\y<=9223372036854775807:=by
     intro i;by_cases M:i<m
     ·obtain⟨Z,h2⟩:=hi i M
      obtain⟨y,e0,_,wf⟩:=DataW.trod_int he h2;simp only[gA,and_true]at e0;rw[e0,eQ]at Z;simp only[World.cell?,hw]at Z;have wf:(decide (IntKind.i64.min<=y)&&decide (y<=IntKind.i64.max))=true:=wf;rw[bD,av,av]at wf;exact⟨y,fun _=>by simpa using Z,wf⟩
     ·exact⟨0,fun y=>absurd y M,a_,a_⟩
    have F:∀i,{ y:Int // (i<m->arr[off+i]? = some (.int .i64 y))/\-9223372036854775808<=y/\y<=9223372036854775807 }:=fun i=>⟨Classical.choose (each i),Classical.choose_spec (each i)⟩
    have C:((List.range len).map fun i=>(F i).1).length=len:=by simp
    refine⟨(List.range len).map fun i=>(F i).1,.inr ⟨b,off,m,arr,e',fr,p,by rw[C],hw,fun j y hj=>?_⟩,.inr ⟨_,_,by rw[U],by rw[C];simp⟩,fun y hy=>?_⟩
    ·have T:=(bA.1 hj).1
     rw[C]at T;rw[aY,cL T]at hj;cases hj;exact(F j).2.1 a_
    ·obtain⟨i,_,rfl⟩:=b9.1 hy
     exact(F i).2.2
   ·cases h0
end
section
open Go.Proofs Go.ChangeShapes Go.WideShapes Go.ChangeAt Go.RowKit Go.Deep
set_option maxRecDepth 100000
def yS:List Ct:=List.replicate 4 (.int .i64)++List.replicate 64 (.int .u8)
def vz:List Ct:=[.int .i64,.int .i64,.int .i64,.row 3]++yS
theorem Btf:qk TP 8 36=some vz:=by kernel_rfl
structure pA(W:World)(l:List Value)(o:Zf)(ws:List (Nat × Nat × Nat)):Prop where
 cells:l.map evV=o.cells
 win:∀x∈ws,Bm2 W x
 Ly:∀A,(∀x∈ws,x∈A)->o.At (Ahy W A)
 bq:0<o.bs.length->o.bq<W.heap.size
 rx:Vv o.x
 A53:∀V∈l,Axt W.heap.size V
section
variable {W:World}{H:Type}{enc:TypeId × Value->H}{base:Nat}{hd:Bool}
theorem sG {sp:Nat->Bool}{a:List Ct}{d:DataW H}{l:List Value}(h:qm TP W enc base sp hd a d l){i:Nat}{k:IntKind}(p:a[i]? = some (.int k)):∃n,l[i]? = some (.int k n)/\k.min<=n/\n<=k.max:=by
 obtain⟨v,C,t,x,e1,_,e3,e4⟩:=h.2 i _ p;obtain⟨n,u,_,wf⟩:=DataW.trod_int (show TP.underlying t=some (.int k)from e4) e3;cases u;have wf:(decide (k.min<=n)&&decide (n<=k.max))=true:=wf;rw[bD,av,av]at wf;exact⟨n,e1,wf⟩
theorem Bhx {sp:Nat->Bool}{p:List Ct}{d:DataW H}{l:List Value}(h:qm TP W enc base sp hd p d l){o:Nat}(t:∀i,i<68->p[o+i]? = yS[i]?):∃e:Le,e.Wf/\∀i,i<68->∃V,l[o+i]? = some V/\Axt W.heap.size V/\e.cells[i]? = some (evV V):=by
 have num:∀i,i<4->∃n,l[o+i]? = some (.int .i64 n):=fun i a=>by
  obtain⟨n,e,_⟩:=sG h (i:=o+i) (k:=.i64) (by rw[t i a_];rcases i with _|_|_|_|i<;>first|rfl|omega);exact⟨n,e⟩
 have pat:∀i,∃b:Nat,b<256/\(i<64->l[o+(4+i)]? = some (.int .u8 (b:Int))):=fun i=>by
  by_cases a:i<64
  ·obtain⟨n,e,u,h2⟩:=sG h (i:=o+(4+i)) (k:=.u8) (by
    rw[t (4+i) a_];unfold yS;rw[bm (by simp),bW,show 4+i-4=i from a_,List.getElem?_replicate,aN a])
   have u:(0:Int)<=n:=u;have h2:n<=255:=h2;exact⟨n.toNat,a_,fun _=>by rw[e];congr 2;omega⟩
  ·exact⟨0,c_,fun y=>absurd y a⟩
 obtain⟨n0,e0⟩:=num 0 a_;obtain⟨C,e1⟩:=num 1 a_;obtain⟨D,e2⟩:=num 2 a_;obtain⟨n3,e3⟩:=num 3 a_;have F:∀i,{ b:Nat // b<256/\(i<64->l[o+(4+i)]? = some (.int .u8 (b:Int))) }:=fun i=>⟨Classical.choose (pat i),Classical.choose_spec (pat i)⟩
 refine⟨⟨n0,C,D,n3,Bh ((List.range 64).map fun i=>(F i).1)⟩,⟨⟨_,fun b hb=>by obtain⟨i,_,rfl⟩:=b9.1 hb;exact(F i).2.1,rfl⟩,by rw[Bf,bT,eh]⟩,fun i a=>?_⟩;unfold Le.cells;rcases dJ i 4 with y|y
 ·rcases i with _|_|_|_|i
  ·exact⟨_,e0,.num _ _ _,rfl⟩
  ·exact⟨_,e1,.num _ _ _,rfl⟩
  ·exact⟨_,e2,.num _ _ _,rfl⟩
  ·exact⟨_,e3,.num _ _ _,rfl⟩
  ·omega
 ·refine⟨.int .u8 ((F (i-4)).1:Int),?_,.num _ _ _,?_⟩
  ·rw[<-(F (i-4)).2.2 a_];congr 1;omega
  ·rw[bm (by show 4<=i;exact y)]
   show(Bh ((List.range 64).map fun i=>(F i).1))[i-4]? = _;unfold Bh;rw[aY,aY,cL a_];rfl
theorem Bny {d:DataW H}{l:List Value}(h:qm TP W enc base (fun _=>true) hd vz d l):∃o ws,pA W l o ws/\(o.bs = []\/∃el rs,Sub (DataW.slice el rs) d/\el.length=o.bs.length):=by
 have hl:l.length=72:=h.1;obtain⟨Z,e0,_⟩:=sG h (i:=0) (k:=.i64) rfl;obtain⟨k1,e1,r1,r2⟩:=sG h (i:=1) (k:=.i64) rfl;obtain⟨k2,e2,_⟩:=sG h (i:=2) (k:=.i64) rfl;obtain⟨V,fu,t,x,e3,sb,tr,ct⟩:=h.2 3 _ (show vz[3]? = some (.row 3)from rfl);obtain⟨bs,M,lb,rg⟩:=Bbr (show TP.underlying t=some (.slice 3)from ct) Tryz.underlying3 (by kernel_rfl) tr;obtain⟨ev,T,U⟩:=Bhx h (o:=4) (fun i p=>by
  unfold vz;rw[bm (by simp)];congr 1;simp)
 have gV:=M.A53;obtain⟨bq,ws,hw,hI,hb⟩:∃(bq:Nat) (ws:List (Nat × Nat × Nat)),(∀x∈ws,Bm2 W x)/\(∀A,(∀x∈ws,x∈A)->A2h (Ahy W A) (evV V) bq bs)/\(0<bs.length->bq<W.heap.size):=by
  rcases M with⟨rfl,hV⟩|⟨b,off,cap,arr,e,fr,hc,rfl,C,u⟩
  ·exact⟨0,[],fun x u=>(by cases u),fun A _=>⟨.inl ⟨rfl,by rcases hV with rfl|⟨a,rfl⟩<;>rfl⟩⟩,fun y=>absurd y (bU _)⟩
  ·refine⟨b,[(b,off,bs.length)],fun x D=>?_,fun A J=>⟨.inr ⟨off,cap,false,?_,fun j hj k=>?_⟩⟩,fun _=>(br.1 C).1⟩
   ·rw[aP.1 D]
    exact⟨arr,e,fr,C,fun j hj=>⟨_,u j _ (aF hj),.num _ _ _⟩⟩
   ·show(if cap=0 then EV.odd ⟨b,off,none⟩else EV.slice b off bs.length cap false)=_;rw[aK a_]
   ·exact Brf (J _ (aP.2 rfl)) C hj (u j _ (aF hj)) k
 refine⟨⟨Z,k1,k2,evV V,bq,bs,ev⟩,ws,⟨?_,hw,fun A J=>⟨hI A J,T,gV.pl⟩,hb,⟨r1,r2⟩,fun v hv=>?_⟩,?_⟩
 ·apply eR
  intro i;unfold Zf.cells;rw[aY];rcases dJ i 4 with y|y
  ·rw[cI (by show i<4;exact y)]
   rcases i with _|_|_|_|i
   ·rw[e0];rfl
   ·rw[e1];rfl
   ·rw[e2];rfl
   ·rw[e3];rfl
   ·omega
  ·rw[bm (by show 4<=i;exact y)]
   rcases dJ i 72 with z|z
   ·obtain⟨v,a,b,c⟩:=U (i-4) a_
    rw[show 4+(i-4)=i from a_]at a;rw[a];exact c.symm
   ·rw[cN a_,cN (by rw[Le.Ay T];show 68<=i-4;omega)];rfl
 ·obtain⟨i,p⟩:=fO.1 hv
  have aq:=(bA.1 p).1;rcases dJ i 4 with y|y
  ·rcases i with _|_|_|_|i
   ·rw[e0]at p;cases p;exact .num _ _ _
   ·rw[e1]at p;cases p;exact .num _ _ _
   ·rw[e2]at p;cases p;exact .num _ _ _
   ·rw[e3]at p;cases p;exact gV
   ·omega
  ·obtain⟨v',a,b,c⟩:=U (i-4) a_
   rw[show 4+(i-4)=i from a_,p]at a;cases a;exact b
 ·rcases lb with y|⟨el,rs,y1,y2⟩
  ·exact .inl y
  ·exact .inr ⟨el,rs,by rw[<-y1];exact sb,y2⟩
end
theorem TA {W:World}:∀{L:List (List Value)},(∀l∈L,∃o ws,pA W l o ws/\o.bs.length<=1048576)->∃(os:List Zf) (ws:List (Nat × Nat × Nat)),os.length=L.length/\(∀x∈ws,Bm2 W x)/\∀(j:Nat) (l:List Value) (o:Zf),L[j]? = some l->os[j]? = some o->∃w',pA W l o w'/\o.bs.length<=1048576/\∀x∈w',x∈ws
 | [],_=>⟨[],[],rfl,fun x p=>(by cases p),fun j l o hj=>by cases hj⟩
 | l::L,h=>by
  obtain⟨o,w1,a,b⟩:=h l (aW ..);obtain⟨os,ws,e,hw,hj⟩:=TA (L:=L) fun l u=>h l (aV _ u)
  refine⟨o::os,w1++ws,by rw[bP,bP,e],fun x p=>?_,fun j l' o' t h2=>?_⟩
  ·rcases bO.1 p with y|y
   ·exact a.win x y
   ·exact hw x y
  ·cases j with
   | zero=>cases t;cases h2;exact⟨w1,a,b,fun x p=>bO.2 (.inl p)⟩
   | succ j=>
    obtain⟨w',c1,c2,c3⟩:=hj j l' o' t h2;exact⟨w',c1,c2,fun x p=>bO.2 (.inr (c3 x p))⟩
theorem Brq {w:World}{v:Value}{L:List (List Value)}(R:yO w v 72 L)(hL:∀l∈L,∃o ws,pA w l o ws/\o.bs.length<=1048576):∃(h:Ab) (b:Nat) (os:List Zf),yP w h/\Cl A8r (evV v)=v/\(evV v).ok (fun i=>i<w.heap.size)/\jW h w.heap.size (evV v) b os:=by
 obtain⟨os,ws,el,hw,hj⟩:=TA hL;have mk:∀A,(∀x∈ws,x∈A)->∀o∈os,o.At (Ahy w A)/\(0<o.bs.length->o.bq<w.heap.size)/\o.bs.length<=1048576/\Vv o.x:=fun A hA o u=>by
  obtain⟨j,C⟩:=fO.1 u;have hl:=(bA.1 C).1;obtain⟨w',a,b,c⟩:=hj j _ o (aF a_) C;exact⟨a.Ly A fun x p=>hA x (c x p),a.bq,b,a.rx⟩
 rcases R with⟨rfl,rfl⟩|⟨b,off,cap,arr,e,fr,rfl,M,D,T⟩
 ·have:os = []:=cY el
  subst this;exact⟨Ahy w ws,0,[],yQ hw,rfl,trivial,⟨.inl ⟨rfl,rfl⟩,fun o u=>by cases u⟩⟩
 ·have hn:∀(j:Nat) (t:j<L.length),(L[j]).length=72/\(L[j]).map evV=(os[j]'(by omega)).cells/\∀V∈L[j],Axt w.heap.size V:=fun j t=>by
   obtain⟨w',a,_,_⟩:=hj j L[j] (os[j]'(by omega)) (aF t) (aF a_);have:=congrArg List.length a.cells;rw[bT,Zf.len (a.Ly w' fun x p=>p).ev]at this;exact⟨this,a.cells,a.A53⟩
  have hb:b<w.heap.size:=(br.1 D).1;have p:Bm2 w (b,off,L.length*72):=⟨arr,e,fr,D,fun k U=>by
   have U:k<L.length*72:=U;have Z:k/72<L.length:=a_
   obtain⟨n1,_,n3⟩:=hn _ Z;have h2:k%72<(L[k/72]).length:=a_
   have:=T (k/72) (k%72) Z _ a_ (aF h2);rw[show k/72*72+k%72=k from a_]at this;exact⟨_,this,n3 _ (aZ h2)⟩⟩
  have e1:∀c,evV (.slice (some ⟨b,off,none⟩) L.length c)=if c=0 then .odd ⟨b,off,none⟩else .slice b off L.length c false:=fun c=>rfl
  rcases eC cap with hz|hz
  ·subst hz
   have:L = []:=cY a_;subst this;have:os = []:=cY el;subst this;exact⟨Ahy w ws,0,[],yQ hw,rfl,trivial,⟨.inl ⟨rfl,rfl⟩,fun o u=>by cases u⟩⟩
  ·refine⟨Ahy w ((b,off,L.length*72)::ws),b,os,yQ fun x J=>?_,?_,?_,⟨.inr ⟨hb,off,cap,false,?_,a_,fun j t k=>?_⟩,mk _ fun x p=>aV _ p⟩⟩
   ·rcases bc.1 J with y|y
    ·subst y;exact p
    ·exact hw x y
   ·rw[e1,aK a_];rfl
   ·rw[e1,aK a_];exact hb
   ·rw[e1,aK a_,el]
   ·obtain⟨n1,n2,n3⟩:=hn j a_
    have:=Bq8 (w:=w) (A:=ws) (x:=(b,off,L.length*72)) D (j:=j*72) (n:=72) (by show j*72+72<=L.length*72;omega) c_ n1 (fun r V hV=>T j r a_ V (by have:=(bA.1 hV).1;omega) hV) k;rw[n2]at this;exact this
end
noncomputable section
def many:Nat:=1099511627776
def yT:Nat->Option FT:=fun _=>none
theorem TB:∀g F,yT g=some F->km TP g F:=fun _ _ h=>by cases h
def TC(v:EV)(r:R):Bool:=match r with|some (w,_)=>gY w v|none=>false
end
theorem Brb:TC U1 (Ag TT yT many 60 false 24 [] ⟨.nil,0,0⟩)=true:=by kernel_rfl
theorem TD:(Bc.all fun v=>match v with | .int _ _=>true|_=>false)=true:=by kernel_rfl
theorem Bm5 {l:List EV}(h:(l.all fun v=>match v with | .int _ _=>true|_=>false)=true)(f g:Loc):Bo f l=Bo g l:=by
 induction l with
 | nil=>rfl
 | cons a r p=>
  rw[List.all_cons,bD]at h;simp only[Bo];rw[p h.2];cases a<;>first|rfl|(simp at h)
theorem Bof {l:List EV}(h:(l.all fun v=>match v with | .int _ _=>true|_=>false)=true)(p:Nat->Prop):EV.T4 p l/\l.all EV.one=true:=by
 induction l with
 | nil=>exact⟨trivial,rfl⟩
 | cons a r t=>
  rw[List.all_cons,bD]at h;obtain⟨i1,i2⟩:=t h.2;rw[List.all_cons,i2];cases a<;>first|exact⟨⟨trivial,i1⟩,rfl⟩|(simp at h)
theorem Bbp:km TP 24 A6r:=by
 intro call round K _ _ args h v h' e;have hs:=(uC wZ TB many 60).1;have hr:=Brb;unfold TC at hr;split at hr
 next w h0 t=>
  have hw:=OS hr;subst hw;obtain⟨fn,C,hb,hn⟩:=(hs 24 [] _ _ _ t).fn;have u:∀f,Cl f U1=Cl ⟨fun _=>0,fun _=>0⟩ U1:=fun f=>by
   show Cl f (.agg Bc)=Cl _ (.agg Bc);simp only[Cl];rw[Bm5 TD f ⟨fun _=>0,fun _=>0⟩]
  obtain⟨D,J⟩:=RY (P:=TP) (g:=24) (v:=U1) u (fun p=>Bof TD p) C hb hn (fun w=>RX hs.call t u w);cases args with
  | nil=>exact Sound.of D J 24 [] h v h' e
  | cons a r=>cases e
 ·cases hr
theorem yU {P:Program}{disp:Nat->Option FT}(h:∀g F,disp g=some F->km P g F){n:Nat}{G:FT}(a:km P n G):∀g F,Bb (Nat.beq g n) (some G) (disp g)=some F->km P g F:=by
 intro g F e;rw[Br]at e;split at e
 next hb=>cases e;rw[beq_spec hb];exact a
 ·exact h g F e
noncomputable def vA:Nat->Option FT:=fun f=>Bb (Nat.beq f 24) (some A6r) (yT f)
theorem TE:∀g F,vA g=some F->km TP g F:=yU TB Bbp
noncomputable def yV:FT:=fun _ _ _ args h=>@List.rec EV (fun _=>R) (some (.bool true,h)) (fun _ _ _=>none) args
theorem Bkx {disp:Nat->Option FT}{n:Nat}(hd:∀g F,disp g=some F->km TP g F)(t:isTrue (Ag TT disp many 60 false n [] ⟨.nil,0,0⟩)=true):km TP n yV:=by
 intro call round K _ _ args h v h' e;have hs:=(uC wZ hd many 60).1;obtain⟨h0,hr⟩:=A9j t;obtain⟨fn,u,hb,hn⟩:=(hs n [] _ _ _ hr).fn;obtain⟨C,D⟩:=RY (P:=TP) (g:=n) (v:=.bool true) (V:=.bool true) (fun _=>rfl) (fun p=>trivial) u hb hn fun w=>RX hs.call hr (fun _=>rfl) w
 cases args with
 | nil=>exact Sound.of C D n [] h v h' (by unfold sy;rw[cP,Aj];exact e)
 | cons a r=>cases e
theorem Blm:isTrue (Ag TT vA many 60 false 5 [] ⟨.nil,0,0⟩)=true:=by kernel_rfl
noncomputable def yW:Nat->Option FT:=fun f=>Bb (Nat.beq f 5) (some yV) (vA f)
theorem Bio:∀g F,yW g=some F->km TP g F:=yU TE (Bkx TE Blm)
noncomputable def sH:Nat->Option FT:=fun f=>Bb (Nat.beq f 89) (some nG) (yW f)
theorem Bl3:∀g F,sH g=some F->km TP g F:=yU Bio Bp8
theorem yX {a b:Bool}(h:Bb a false b=true):a=false/\b=true:=by cases a<;>simp_all [Br]
theorem TF:Ca sH:=by
 refine⟨fun g h=>?_,by kernel_rfl⟩;obtain⟨a,h⟩:=yX h;obtain⟨h2,h⟩:=yX h;obtain⟨p,_⟩:=yX h;unfold sH yW vA;rw[a,h2,p];rfl
theorem call5 {K d:Nat}(h:Ab):Ag TT sH K (d+1) false 5 [] h=some (.bool true,h):=by
 rw[w7 (show sH 5=some yV by kernel_rfl)];rfl
theorem A9l(D Z S B P O:Int)(v1:Value)(w:World){L:List (List Value)}(R1:yO w v1 72 L)(p:∀l∈L,∃o ws,pA w l o ws/\o.bs.length<=1048576):
 Calls Tryz.prog 4 #[.agg #[.int .i64 D,.int .i64 Z,.int .i64 S,.int .i64 B,.int .i64 P,.int .i64 O],v1] w fun e w'=>e=.returned (.bool true)/\RowKit.Below w.heap.size w w':=by
 obtain⟨h,b,os,a,e1,o1,t⟩:=Brq R1 p;obtain⟨v,h',e,rfl,same⟩:=Bf4 (K:=many) TF (by kernel_rfl) (by unfold many;decide) (d:=39) a_ (fun h=>call5 h) ⟨D,Z,S,B,P,O⟩ a.hb (O:=os) (by rw[a.next];exact t);rw[<-V8 TF c_]at e;refine A9z a (args:=[gV ⟨D,Z,S,B,P,O⟩,evV v1]) (vs:=[.agg #[.int .i64 D,.int .i64 Z,.int .i64 S,.int .i64 B,.int .i64 P,.int .i64 O],v1]) ?_ ?_ (fun _=>rfl) ((uC wZ Bl3 many 41).1 4 _ _ _ _ e) (fun i u=>same i (by rw[a.next];exact u))
 ·show[Cl A8r (gV ⟨D,Z,S,B,P,O⟩),Cl A8r (evV v1)]=_
  rw[e1];rfl
 ·exact⟨by simp[EV.T4,EV.ok,gV,gL,I,EV.one],o1,trivial⟩
end Go.Ev
