import Derived.Test.YtokpnommcenoaaaGreatCe
import Derived.Test.YtokpnommcenoaaaGreatDc
set_option linter.all false
namespace Go.Ev
open Go.Proofs
set_option maxRecDepth 100000
variable {F:Nat->Prop}{h h' h0:Ab}{tm:Ax}{K b d e j n a2 a5 a8 zq:Nat}{ds:List Nat}{v v1:EV}{X:Co}{L:List Ab2}{disp:Nat->Option FT}{B:Cb}{Q:EV->Ab->Prop}{ih:Ax->EV->EV->EV->EV->EV->EV->EV->EV->EV->Ab->List Nat->R}
section
theorem Bpx:(Dt TT 3 0).2.1 = [94]:=by kernel_rfl
theorem Bpc:(Dt TT 3 1).2.1 = [155]:=by kernel_rfl
structure A7e(F:Nat->Prop)(h0 h:Ab)(l0:Nat)(tm:Ax)(zq:Nat)(z:Int)(w:Bool):Prop where
 q:Qt F h0 h
 lp:h.get l0=some (As TT 3 196 0 tm .ready none (l0-1))
 dd:h.get (l0-1)=some (.deferred true)
 cw:h.get h0.next=some (.cells [.bool w] 4)
 zq:h.get zq=some (.cells [I z] 3)
theorem A7e.chg{l0:Nat}{z:Int}{b:Bool}(w:A7e F h0 h l0 tm zq z b){T:Nat->Prop}(c:Ar T h h')(t:∀i,T i->l0<i)(l:h0.next<l0)(a:zq<l0):A7e F h0 h' l0 tm zq z b:=by
 have kp:∀i o,h.get i=some o->i<=l0->h'.get i=some o:=fun i o g hi=>c.at w.q.hb g fun y=>by have:=t i y;omega
 exact⟨w.q.U6 c fun i hi=>by have:=t i hi;omega,kp _ _ w.lp (aC _),kp _ _ w.dd (by omega),kp _ _ w.cw (by omega),kp _ _ w.zq (by omega)⟩
section
variable (A:Ca disp)(hK:10000<K)(C:Eb h0 B X F)(ga5:h0.get a5=some (.cells [.ptr B.c 0] 26))(ga8:h0.get a8=some (.cells [.ptr B.m 0] 37))
include A C ga5 ga8
theorem Bi3 {l0:Nat}{z:Int}(t5:tmp tm 5=.ptr a5 0)(t8:tmp tm 8=.ptr a8 0)(t15:tmp tm 15=.ptr h0.next 0)(l:h0.next+3<l0)(lz:zq<l0)(nz:h0.next<zq)(aq:zq<l0-1)(he:4<=e)(hj:j<X.es.length){w:Bool}(E:A7e F h0 h l0 tm zq z w):
 Ok (Ag TT disp K e true l0 [I j] h) fun v h'=>v=.bool true/\Ar (fun i=>i=l0\/i=h0.next) h h'/\A7e F h0 h' l0 tm zq z (w&&Auk X.S X.es[j]):=by
 obtain⟨e,rfl⟩:∃k,e=k+1:=⟨e-1,by omega⟩;have W:=E.lp;have u:=W;unfold As at u;rw[Bpx]at u;rw[X9 A (by omega) tm h (I j) u,t5,t8,t15];have hb:=E.q.hb;have J:=hb _ _ W;simp only[Qj,Qo W,Nb,dr];have c1:Ar (fun i=>i=l0\/i=h0.next) h (h.put l0 (As TT 3 196 0 tm .busy none (l0-1))):=(Ar.refl h).Ak (.inl (.inl rfl)) J _;have Y:(h.put l0 (As TT 3 196 0 tm .busy none (l0-1))).get l0=some (As TT 3 196 0 tm .busy none (l0-1)):=Ae _ _ _;have kp:∀i o,h.get i=some o->i≠l0->(h.put l0 (As TT 3 196 0 tm .busy none (l0-1))).get i=some o:=fun i o g hi=>by rw[Af _ (cN hi)];exact g
 have gd:=kp _ _ E.dd (by omega);have V:=kp _ _ E.cw (by omega);have gz:=kp _ _ E.zq (by omega);have O:Qt F h0 (h.put l0 (As TT 3 196 0 tm .busy none (l0-1))):=E.q.U6 ((Ar.refl (S:=fun i=>i=l0) h).Ak (.inl rfl) J _) fun i hi=>by omega
 clear kp;generalize h.put l0 (As TT 3 196 0 tm .busy none (l0-1))=h1 at c1 Y gd V gz O⊢;have a:=(C.rd O).C;have g5:=O.at C.hb ga5;have g8:=O.at C.hb ga8;rw[Aj g5 rfl (v:=.ptr B.c 0) rfl];simp only[E1,Aa];rw[a.ldB];refine(U0 (K:=K) C.sm a.map a.hb j).Ap ?_;rintro _ h2 ⟨rfl,x2⟩;rw[Baz hj];have hx:=C.map.ok _ (bF hj);obtain⟨r1,r2⟩:=A2w C.sm hx;unfold Auk;generalize X.es[j]=x at r1 r2⊢;simp only[Aa];have aa:=x2.hb a.hb;refine Ok.stW (Ac _ _) rfl rfl ?_;have x3:Ext h2 ((h2.new (.cells [EV.int .i64 0,.int .i64 0,.int .i64 0,.int .i64 0,.int .i64 0,.int .i64 0] 53)).put h2.next (.cells x.cells 53)):=(Ar.new h2 _:Ext _ _).Ak (.inr (aC _)) (aE _) _;have e3:((h2.new (.cells [EV.int .i64 0,.int .i64 0,.int .i64 0,.int .i64 0,.int .i64 0,.int .i64 0] 53)).put h2.next (.cells x.cells 53)).get h2.next=some (.cells x.cells 53):=Ae _ _ _
 generalize (h2.new (.cells [EV.int .i64 0,.int .i64 0,.int .i64 0,.int .i64 0,.int .i64 0,.int .i64 0] 53)).put h2.next (.cells x.cells 53)=h3 at x3 e3⊢
 have f:=x2.trans x3;have y:=x3.hb aa;have C3:=(a.toE f).C;rw[Aj (Ext.at f a.hb V) rfl (v:=.bool w) rfl];have az:Fj (.tuple []) false=false/\Fj (.tuple []) true=false:=⟨rfl,rfl⟩;have fin:∀(b:Bool) (t:Ab),Ext h1 t->Ok (stE 1 (.ptr h0.next 0) (.bool b) t fun h=>Su l0 true .ready none h) fun v h'=>v=.bool true/\Ar (fun i=>i=l0\/i=h0.next) h h'/\A7e F h0 h' l0 tm zq z b:=fun b t G=>by
  have P:=G.hb a.hb;have H:∀{i o},h1.get i=some o->t.get i=some o:=fun g=>Ext.at G a.hb g
  have q5:=O.trans (Qt.ext G a.hb);have l5:=P _ _ (H Y);have T:=P _ _ (H V);have c5:=c1.trans (Ext.to G);rw[Akl (o:=0) (n:=1) (v:=.bool b) (l':=[.bool b]) (H V) rfl rfl rfl,Js (by rw[Af _ (by omega)];exact H Y)];exact .ret ⟨rfl,(c5.Ak (.inl (.inr rfl)) T _).Ak (.inl (.inl rfl)) l5 _,q5.U6 (((Ar.refl (S:=fun i=>h0.next<=i) t).Ak (.inl (by omega)) T _).Ak (.inl (by omega)) l5 _) (fun i hi=>hi),Ae _ _ _,
   by rw[Af _ (by omega),Af _ (by omega)];exact H gd,by rw[Af _ (by omega)];exact Ae _ _ _,by rw[Af _ (by omega),Af _ (by omega)];exact H gz⟩
 cases w with
 | false=>
  simp only[Aa,Ad,Gi,Et,aX];exact fin false h3 f
 | true=>
 simp only[Aa,Ad,aZ];rw[Aj (Ext.at f a.hb g8) rfl (v:=.ptr B.m 0) rfl,Aj e3 rfl (v:=I x.An) rfl];refine(Hy (K:=K) C3.M.s y r1).Ap ?_;rintro _ h4 ⟨rfl,x4⟩;have ae:=x4.hb y;have p:=f.trans x4;cases X.S.I7 x.An with
 | true=>
  simp only[Aa,Ad,Gi,Et,dP,aX];exact fin false h4 p
 | false=>
 simp only[Aa,Ad,Gi,cO,aZ];have C4:=(a.toE p).C;rw[Aj (Ext.at p a.hb g8) rfl (v:=.ptr B.m 0) rfl,Aj (x4.at y e3) rfl (v:=I x.Br) rfl];refine(Hy (K:=K) C4.M.s ae r2).Ap ?_;rintro _ t ⟨rfl,G⟩;have U:=p.trans G;cases X.S.I7 x.Br with
 | true=>
  simp only[Aa,Ad,Et,dP];exact fin false t U
 | false=>
  simp only[Aa,Ad,Et,cO];exact fin true t U
end
structure VL(F:Nat->Prop)(h0 h:Ab)(ds:List Nat):Prop where
 q:Qt F h0 h
 nd:ds.Nodup
 df:∀d∈ds,h0.next<=d/\h.get d=some (.deferred true)
theorem VL.step(v:VL F h0 h ds)(q:Qt F h h'):VL F h0 h' ds:=⟨v.q.trans q,v.nd,fun d hd=>⟨(v.df d hd).1,q.at v.q.hb (v.df d hd).2⟩⟩
theorem VL.cons(v:VL F h0 h ds)(q:Qt F h h')(hd:h.next<=d)(g:h'.get d=some (.deferred true)):VL F h0 h' (d::ds):=by
 have w:=v.step q;have:=v.q.next
 refine⟨w.q,cQ.2 ⟨fun y=>?_,w.nd⟩,fun x a=>?_⟩
 ·have:=v.q.hb _ _ (v.df _ y).2
  omega
 ·rcases bV.1 a with rfl|a
  ·exact⟨by omega,g⟩
  ·exact w.df x a
theorem VL.end(v:VL F h0 h ds)(b:Bool){P:EV->Ab->Prop}(a:∀h',Qt F h0 h'->P (.bool b) h'):Ok (Fp ds h fun h=>some (.bool b,h)) P:=by
 refine Ok.unwind v.nd (fun d hd=>(v.df d hd).2) v.q.hb fun h' c _=>?_
 exact .ret (a h' (v.q.U6 c fun i hi=>(v.df i hi).1))
end
section
theorem Bgo(a b:Bool)(k:EV->R):Kv Ake (bin TT .neq 4) (.bool a) (.bool b) k=k (.bool (a != b)):=by
 cases a<;>cases b<;>kernel_rfl
structure Tm(a5 a8:Nat)(tm:Ax):Prop where
 t5:tmp tm 5=.ptr a5 0
 t8:tmp tm 8=.ptr a8 0
theorem Tm.put(t:Tm a5 a8 tm)(a:n≠5)(f:n≠8):Tm a5 a8 (tm.put n (some v)):=
 ⟨by rw[Ei,aK (by omega)];exact t.t5,by rw[Ei,aK (by omega)];exact t.t8⟩
theorem Bfn(s:Sm X.S.g){i:Int}(h0:0<=i)(f:i<X.S.g.D*X.S.g.Z):X.closed i=(decide (¬i=X.S.a)&&(decide (¬i=X.S.b)&&(!X.S.I7 i&&(!Avg X.cur X.Cr i&&!hasB X.S.ps X.S.g.D.toNat i)))):=by
 unfold Co.closed;have:0<=Ej X.S.g i:=by
  have:=s.z0;unfold Ej;rw[aK (by omega)];exact Int.ediv_nonneg h0 (by omega)
 rw[aP this,aZ]
section
variable (A:Ca disp)(hK:10000<K)(C:Eb h0 B X F)(ga2:h0.get a2=some (.cells (gL X.S.g) 23))(ga5:h0.get a5=some (.cells [.ptr B.c 0] 26))(ga8:h0.get a8=some (.cells [.ptr B.m 0] 37))(hd:9<=d){i:Nat}(hi:(i:Int)<X.S.g.D*X.S.g.Z)

 (nx:∀tm h ds,Tm a5 a8 tm->VL F h0 h ds->Ok (ih tm (.ptr a2 0) (.bool false) (.ptr a5 0) (.ptr a8 0) (I X.S.a) (I X.S.b) (I (X.Is (i+1))) (I n) (I (i+1:Nat)) h ds) Q)
include A hK C ga2 ga5 ga8 hi nx
theorem Bpg{b:Int}(T:Tm a5 a8 tm)(v:VL F h0 h ds)(hb:b=X.Is (i+1)):Ok (E7 (Ag TT disp K d false) (Ag TT disp K d true) K ih tm (.ptr a2 0) (.bool false) (.ptr a5 0) (.ptr a8 0) (I X.S.a) (I X.S.b) (I b) (I n) (I i) h ds) Q:=by
 subst hb;have bd:=C.sm.Wj;simp only[E7,I,Ad];rw[Cn (by omega) (by omega),show((i:Nat):Int)+1=((i+1:Nat):Int) by omega];refine nx _ h ds ?_ v;exact(T.put (by decide) (by decide)).put (by decide) (by decide)
theorem Bo1{cw:Nat}(T:Tm a5 a8 tm)(v:VL F h0 h ds)(H:h.get cw=some (.cells [.bool (T6 X.S i X.es)] 4)):Ok (G0 (Ag TT disp K d false) (Ag TT disp K d true) K ih tm (.ptr a2 0) (.bool false) (.ptr a5 0) (.ptr a8 0) (I X.S.a) (I X.S.b) (I (X.Is i)) (I i) (.bool (X.closed i)) (.ptr cw 0) (I n) (I i) h ds) Q:=by
 have bd:=C.sm.Wj;have J:=C.A78;have x:=(C.rd v.q).C;have E:=v.q.at C.hb ga5;have M:=v.q.at C.hb ga2;simp only[G0,dr];rw[Aj E rfl (v:=.ptr B.c 0) rfl];simp only[E1,Aa];rw[x.ldB,Au];have ml:∀z,E2 K (.ptr B.b 0) (I z) h=some (I (X.live z),h):=fun z=>Vl (K:=K) x.map z
 rw[ml,Au];have O:Fj (.tuple []) false=false/\Fj (.tuple []) true=false:=⟨rfl,rfl⟩;have U:=A3e J i;have V:=X.Axs i;have ev:X.Is (i+1)=if X.Avi i=true/\(X.Is i = -1\/X.live i<X.live (X.Is i))then(i:Int)else X.Is i:=rfl
 have no:X.Avi i=false->X.Is i=X.Is (i+1):=fun t=>by rw[ev,aK (by rw[t];simp)]
 have f:X.Avi i=(X.closed i&&(decide (2*X.live i<=X.S.g.S)&&T6 X.S i X.es)):=rfl;have o:=fun tm b T hb=>Bpg (d:=d) A hK C ga2 ga5 ga8 hi nx (tm:=tm) (b:=b) T v hb
 cases t:X.closed i with
 | false=>
  simp only[Aa,Ad,E9,D4,Df,Dh,Cs];refine o _ _ ?_ (no (by rw[f,t];rfl))
  repeat (first|exact T|refine Tm.put ?_ (by decide) (by decide))
 | true=>
 simp only[Aa,Ad];rw[Aj H rfl rfl];cases hw:T6 X.S i X.es with
 | false=>
  simp only[Aa,Ad,E9,D4,Df,Dh,Cs];refine o _ _ ?_ (no (by rw[f,hw,cn,cn]))
  repeat (first|exact T|refine Tm.put ?_ (by decide) (by decide))
 | true=>
 simp only[Aa,Ad,E9];have P:∀k:EV->R,Dr (.ptr a2 2) h k=k (I X.S.g.S):=fun k=>Aj M rfl rfl
 simp only[P,I,Ad];rw[Cn (by omega) (by omega)];by_cases h2:2*X.live i<=X.S.g.S
 case neg=>
  simp only[h2,aA,Aa,Ad,D4,Df,Dh,Cs];refine o _ _ ?_ (no (by rw[f,aQ h2,aX,cn]))
  repeat (first|exact T|refine Tm.put ?_ (by decide) (by decide))
 simp only[h2,aB,Aa,Ad,D4];have yes:X.Avi i=true:=by rw[f,t,hw,aP h2];rfl
 by_cases G:X.Is i<0
 ·simp only[G,aB,Aa,Ad,Df,Dh,Cs]
  refine o _ _ ?_ (by rw[ev,aN ⟨yes,.inl (by omega)⟩])
  repeat (first|exact T|refine Tm.put ?_ (by decide) (by decide))
 simp only[G,aA,Aa,Ad,Df];rw[Aj E rfl (v:=.ptr B.c 0) rfl];simp only[E1,Aa];rw[x.ldB,Au];have p:=ml (X.Is i);simp only[I]at p;rw[p,Au];simp only[Ad,Dh];by_cases u:X.live i<X.live (X.Is i)
 ·simp only[u,aB,Aa,Ad,Cs]
  refine o _ _ ?_ (by rw[ev,aN ⟨yes,.inr u⟩])
  repeat (first|exact T|refine Tm.put ?_ (by decide) (by decide))
 ·simp only[u,aA,Aa,Ad,Cs]
  refine o _ _ ?_ (by rw[ev,aK fun y=>y.2.elim (fun y=>by omega) u])
  repeat (first|exact T|refine Tm.put ?_ (by decide) (by decide))
end
end
section
theorem Bhf(A:Ca disp)(hK:10000<K){m:Nat}{S:Mi}(M:Da h m S F)(hb:HB h)(hd:7<=d)(z:Int):∃p,Bw K (.ptr m 0) h=some (.ptr p 0,h)/\Ok (Ag TT disp K d false 18 [.ptr p 0,I z] h) fun v h'=>v=.bool (hasB S.ps S.g.D.toNat z)/\Qt F h h':=by
 obtain⟨lt,D,p,bl,ql,np,q,c,G,a⟩:=M.s;refine⟨p,Se a.Iv,?_⟩;have f:=a.psz.nd;obtain⟨b1,b2,b3⟩:=a.psz.bd;subst f;refine(A9a (K:=K) A a.Gw hb a.psz.cap (by omega) (by omega) hd (by omega) z).mono ?_;rintro _ h' ⟨rfl,o,k⟩;refine⟨rfl,⟨_,o,fun i hi y=>?_⟩,k⟩;obtain⟨d,hd,rfl⟩:=hi;exact(a.sub.2.2.2.2.2 d hd).2.2 y
section
variable (A:Ca disp)(hK:10000<K)(C:Eb h0 B X F)(ga2:h0.get a2=some (.cells (gL X.S.g) 23))(ga5:h0.get a5=some (.cells [.ptr B.c 0] 26))(ga8:h0.get a8=some (.cells [.ptr B.m 0] 37))(hd:9<=d){i:Nat}(hi:(i:Int)<X.S.g.D*X.S.g.Z)

 (nx:∀tm h ds,Tm a5 a8 tm->VL F h0 h ds->Ok (ih tm (.ptr a2 0) (.bool false) (.ptr a5 0) (.ptr a8 0) (I X.S.a) (I X.S.b) (I (X.Is (i+1))) (I n) (I (i+1:Nat)) h ds) Q)
include A hK C ga2 ga5 ga8 hi nx hd
theorem Bpj(T:Tm a5 a8 tm)(v:VL F h0 h ds):Ok (Jz (Ag TT disp K d false) (Ag TT disp K d true) K ih tm (.ptr a2 0) (.bool false) (.ptr a5 0) (.ptr a8 0) (I X.S.a) (I X.S.b) (I (X.Is i)) (I i) (.bool (X.closed i)) (I n) (I i) h ds) Q:=by
 obtain⟨e,rfl⟩:∃k,d=k+3:=⟨d-3,by omega⟩;have E:=(C.rd v.q).C;have hb:=E.hb;have V:=v.q.at C.hb ga5;have g8:=v.q.at C.hb ga8;simp only[Jz,Aa];refine Ok.Zl (Ac _ _) rfl rfl (by show 0<1;decide) ?_;have G:Ext h ((h.new (.cells [.bool false] 4)).put h.next (.cells ([EV.bool false].set 0 (.bool true)) 4)):=(Ar.new h _:Ext _ _).Ak (.inr (aC _)) (aE _) _;have x:((h.new (.cells [.bool false] 4)).put h.next (.cells ([EV.bool false].set 0 (.bool true)) 4)).next=h.next+1:=rfl
 have W:((h.new (.cells [.bool false] 4)).put h.next (.cells ([EV.bool false].set 0 (.bool true)) 4)).get h.next=some (.cells [.bool true] 4):=Ae _ _ _
 generalize (h.new (.cells [.bool false] 4)).put h.next (.cells ([EV.bool false].set 0 (.bool true)) 4)=o at G x W⊢
 have H:=G.hb hb;rw[Aj (G.at hb V) rfl (v:=.ptr B.c 0) rfl];simp only[E1,Aa];rw[(E.toE G).C.ldB,Au];simp only[Pc,Aa,I];have J:Ext o ((o.new (.cells [.ptr B.b 0] 49)).new (.cells [.int .i64 (i:Int)] 3)):=(Ar.new _ _).Di _;have n2:((o.new (.cells [.ptr B.b 0] 49)).new (.cells [.int .i64 (i:Int)] 3)).next=h.next+3:=by rw[Ab.Cv,Ab.Cv,x]
 have Y:((o.new (.cells [.ptr B.b 0] 49)).new (.cells [.int .i64 (i:Int)] 3)).get (h.next+1)=some (.cells [.ptr B.b 0] 49):=by rw[<-x,Ay _ (aE _)];exact Ac _ _
 have gz:((o.new (.cells [.ptr B.b 0] 49)).new (.cells [.int .i64 (i:Int)] 3)).get (h.next+2)=some (.cells [I i] 3):=by rw[show h.next+2=(o.new (.cells [.ptr B.b 0] 49)).next by rw[Ab.Cv,x]];exact Ac _ _
 rw[show(o.new (.cells [.ptr B.b 0] 49)).next=h.next+2 by rw[Ab.Cv,x],x];generalize (o.new (.cells [.ptr B.b 0] 49)).new (.cells [.int .i64 (i:Int)] 3)=h2 at J n2 Y gz⊢;have t:=J.hb H;have M:Ext h h2:=G.trans J;generalize u:(((((tm.put 15 (some (EV.ptr h.next 0))).put 90 (some (EV.ptr B.c 0))).put 91 (some (EV.ptr B.b 0))).put 92 (some (EV.int .i64 (i:Int)))).put 93 (some (EV.func 80 [] [EV.ptr (h.next+1) 0,EV.ptr (h.next+2) 0])))=f;have O:Tm a5 a8 f:=by
  rw[<-u]
  repeat (first|exact T|refine Tm.put ?_ (by decide) (by decide))
 have t15:tmp f 15=.ptr h.next 0:=by rw[<-u];simp only[Ei,reduceIte,Nat.reduceEqDiff]
 clear u;have hlen:=E.map.len;have cl:Bfh disp K e (h2.next+1) (h.next+2) B.b B.ml B.ll X.S.g X.es i (h2.next+2) (fun j h'=>A7e F h h' (h2.next+1) f (h.next+2) i (T6 X.S i (X.es.take j))) (fun _=>False):=by
  refine⟨fun j h h' w c=>w.chg c (fun i hi=>by have:=hi.1;omega) (by omega) (by omega),fun h h' w c=>w.elim,fun j hj h' hi w _=>?_,fun j hj h' hi w=>?_,fun j h w=>w.q.hb,fun h w=>w.elim,fun j h w=>(E.rd w.q).C.map,fun j h w=>w.zq⟩
  ·obtain⟨v',p,e1,rfl,c,w'⟩:=Bi3 (K:=K) A E V g8 O.t5 O.t8 t15 (l0:=h2.next+1) (zq:=h.next+2) (by omega) (by omega) (by omega) (by omega) (e:=e) (by omega) hj w
   refine⟨true,p,e1,c.mono fun i hi y=>?_,?_⟩
   ·have:=y.1;omega
   ·rw[aN rfl,Aj9 hj,hi]
    simpa using w'
  ·rw[Aj9 hj,hi]
   simpa using w
 have P:Ext h2 (Bq TT 3 196 0 f h2):=Gh;have I0:A7e F h (Bq TT 3 196 0 f h2) (h2.next+1) f (h.next+2) i (T6 X.S i (X.es.take 0)):=⟨Qt.ext (M.trans P) hb,Gc,G3,P.at t (J.at H W),P.at t gz⟩;refine Ok.Ak2 (K:=K) A (by omega) cl (by omega) C.sm Y t I0 (fun p w=>⟨w.lp,?_⟩) fun p w=>w.elim
 rw[cM]at w;have U:=w.q.hb;have l3:=U _ _ w.lp;have q4:Qt F h (p.put (h2.next+1) (As TT 3 196 0 f .exhausted none h2.next)):=w.q.U6 ((Ar.refl (S:=fun i=>i=h2.next+1) p).Ak (.inl rfl) l3 _) fun i hi=>by omega
 have g4:(p.put (h2.next+1) (As TT 3 196 0 f .exhausted none h2.next)).get h.next=some (.cells [.bool (T6 X.S i X.es)] 4):=by rw[Af _ (by omega)];exact w.cw
 have gd:(p.put (h2.next+1) (As TT 3 196 0 f .exhausted none h2.next)).get h2.next=some (.deferred true):=by rw[Af _ (by omega)];exact w.dd
 generalize p.put (h2.next+1) (As TT 3 196 0 f .exhausted none h2.next)=h4 at q4 g4 gd⊢;exact Bo1 (d:=e+3) A hK C ga2 ga5 ga8 hi nx O (v.cons q4 (by omega) gd) g4
theorem Bpk{x y:EV}(f:∀k:EV->R,Apd x y (.bool false) k=k (.bool (X.closed i)))(T:Tm a5 a8 tm)(v:VL F h0 h ds):Ok (Gz (Ag TT disp K d false) (Ag TT disp K d true) K ih tm (.ptr a2 0) (.bool false) (.ptr a5 0) (.ptr a8 0) (I X.S.a) (I X.S.b) (I (X.Is i)) (I i) (I n) (I i) x y h ds) Q:=by
 have o:=(C.rd v.q).C;have bd:=C.sm.Wj;simp only[Gz,Yj,dr];rw[f,Aj (v.q.at C.hb ga5) rfl (v:=.ptr B.c 0) rfl];refine(Vp A hK o (d:=d) (by omega) (z:=i) ⟨by omega,by omega⟩).Ap ?_;rintro _ h2 ⟨rfl,p⟩;rw[Bgo];simp only[bne_self_eq_false,Aa];refine Bpj A hK C ga2 ga5 ga8 hd hi nx ?_ (v.step p)
 repeat (first|exact T|refine Tm.put ?_ (by decide) (by decide))
theorem Bo9(T:Tm a5 a8 tm)(v:VL F h0 h ds):Ok (Jx (Ag TT disp K d false) (Ag TT disp K d true) K ih tm (.ptr a2 0) (.bool false) (.ptr a5 0) (.ptr a8 0) (I X.S.a) (I X.S.b) (I (X.Is i)) (I n) (I i) h ds) Q:=by
 have J:=(C.rd v.q).C;have bd:=C.sm.Wj;have f:=Bfn C.sm (i:=i) (by omega) hi;have V:Tk (i:Int):=⟨by omega,by omega⟩;have W:Fj (.tuple []) false=false/\Fj (.tuple []) true=false:=⟨rfl,rfl⟩;have o:=fun tm x y h v G T=>Bpk A hK C ga2 ga5 ga8 hd hi nx (tm:=tm) (x:=x) (y:=y) (h:=h) (ds:=ds) G T v
 simp only[Jx,I,Ad];by_cases c2:(i:Int)=X.S.a
 ·have d2:decide (¬(i:Int)=X.S.a)=false:=aQ fun y=>y c2
  simp only[d2,Aa,Ad,E8,D7,De];refine o _ _ _ _ v (fun k=>?_) ?_
  ·rw[f,d2,aX];rfl
  ·repeat (first|exact T|refine Tm.put ?_ (by decide) (by decide))
 simp only[c2,aG,aB,Aa,Ad];by_cases c3:(i:Int)=X.S.b
 ·have d3:decide (¬(i:Int)=X.S.b)=false:=aQ fun y=>y c3
  simp only[d3,Aa,Ad,E8,D7,De];refine o _ _ _ _ v (fun k=>?_) ?_
  ·rw[f,d3,aX,cn];rfl
  ·repeat (first|exact T|refine Tm.put ?_ (by decide) (by decide))
 simp only[c3,aG,aB,Aa,Ad,E8];rw[aP c2,aP c3,aZ,aZ]at f;rw[Aj (v.q.at C.hb ga8) rfl (v:=.ptr B.m 0) rfl];refine(Hy (K:=K) J.M.s J.hb V).Ap ?_;rintro _ h4 ⟨rfl,Y⟩;have v4:=v.step (Qt.ext Y J.hb);cases t:X.S.I7 i with
 | true=>
  rw[t]at f;simp only[Aa,Ad,D7,De];refine o _ _ _ _ v4 (fun k=>?_) ?_
  ·rw[f];rfl
  ·repeat (first|exact T|refine Tm.put ?_ (by decide) (by decide))
 | false=>
 rw[t,cO,aZ]at f;simp only[Aa,Ad,D7];have O:=(C.rd v4.q).C;rw[Aj (v4.q.at C.hb ga8) rfl (v:=.ptr B.m 0) rfl];obtain⟨p,ep,G⟩:=Bhf A hK O.M O.hb (d:=d) (by omega) (i:Int);rw[ep,Au];simp only[I]at G;refine G.Ap ?_;rintro _ h6 ⟨rfl,q6⟩;have v6:=v4.step (q6.less fun i=>.inl);cases u:hasB X.S.ps X.S.g.D.toNat i with
 | true=>
  rw[u,dP,cn]at f;simp only[Aa,Ad,De];refine o _ _ _ _ v6 (fun k=>?_) ?_
  ·rw[f];rfl
  ·repeat (first|exact T|refine Tm.put ?_ (by decide) (by decide))
 | false=>
 rw[u,cO,Bool.and_true]at f;simp only[Aa,Ad,De];have H:=(C.rd v6.q).C;rw[Aj (v6.q.at C.hb ga5) rfl (v:=.ptr B.c 0) rfl];simp only[Uu,Aa];rw[H.ldA];have P:=A4g (K:=K) A (d:=d) (by omega) (by omega) H.ar H.hb (i:Int);simp only[I]at P
 try simp only[Aa]
 refine P.Ap ?_;rintro _ h7 ⟨rfl,x7,_⟩;have U:=v6.step (Qt.ext x7 H.hb);cases E:Avg X.cur X.Cr i with
 | true=>
  rw[E]at f;simp only[Aa,Ad];refine o _ _ _ _ U (fun k=>?_) ?_
  ·rw[f];rfl
  ·repeat (first|exact T|refine Tm.put ?_ (by decide) (by decide))
 | false=>
  rw[E]at f;simp only[Aa,Ad];refine o _ _ _ _ U (fun k=>?_) ?_
  ·rw[f];rfl
  ·repeat (first|exact T|refine Tm.put ?_ (by decide) (by decide))
end
section
variable (A:Ca disp)(hK:10000<K)(C:Eb h0 B X F)(ga2:h0.get a2=some (.cells (gL X.S.g) 23))(ga5:h0.get a5=some (.cells [.ptr B.c 0] 26))(ga8:h0.get a8=some (.cells [.ptr B.m 0] 37))(hd:9<=d)(hn:X.S.g.D*X.S.g.Z=n)
include A hK C ga2 ga5 ga8 hn hd
theorem Bon(kk:∀tm h ds,Tm a5 a8 tm->VL F h0 h ds->Ok (Fk (Ag TT disp K d false) (Ag TT disp K d true) K tm (.ptr a2 0) (.bool false) (.ptr a5 0) (I (X.Is n)) h ds) Q):∀(f i:Nat) (tm:Ax) (h:Ab) (ds:List Nat),n-i<f->i<=n->Tm a5 a8 tm->VL F h0 h ds ->
 Ok (D1 (Ag TT disp K d false) (Ag TT disp K d true) K f tm (.ptr a2 0) (.bool false) (.ptr a5 0) (.ptr a8 0) (I X.S.a) (I X.S.b) (I (X.Is i)) (I n) (I i) h ds) Q:=by
 intro f;induction f with
 | zero=>intro i tm h ds o;omega
 | succ f ih=>
  intro i tm h ds o hi T v;rw[D1];have wi:∀k:EV->R,Af2 (I i) (I n) k=k (.bool (decide ((i:Int)<n))):=fun k=>by simp only[I,Ad]
  dsimp only;rw[wi];by_cases p:i<n
  ·rw[aP (by omega)]
   simp only[Aa];refine Bo9 A hK C ga2 ga5 ga8 hd (i:=i) (by omega) (fun tm h ds T v=>ih (i+1) tm h ds (by omega) (by omega) T v) (T.put (by decide) (by decide)) v
  ·have:i=n:=by omega
   subst this;rw[aQ (by omega)];simp only[Aa];exact kk _ _ _ (T.put (by decide) (by decide)) v
end
end
section
structure Bdz(F:Nat->Prop)(h0 h:Ab)(l0:Nat)(tm:Ax)(g:Gm)(d:Int)(best:Int):Prop where
 q:Qt F h0 h
 lp:h.get l0=some (As TT 3 196 1 tm .ready none (l0-1))
 dd:h.get (l0-1)=some (.deferred true)
 cb:h.get h0.next=some (.cells [I best] 3)
 gq:h.get (h0.next+1)=some (.cells (gL g) 23)
 dq:h.get (h0.next+2)=some (.cells [I d] 3)
theorem Ars{z:Int}(h:z<0\/X.S.g.D*X.S.g.Z<=z):X.closed z=false:=by
 unfold Co.closed;have:Ej X.S.g z = -1:=by unfold Ej;rw[aN h]
 rw[this];rfl
theorem Co.Bg7(X:Co)(d:Int):∀j,X.few d j = -1\/0<=X.few d j
 | 0=>.inl rfl
 | j+1=>by
  unfold Co.few;split
  ·rename_i h
   rcases Int.lt_or_le (d*X.S.g.Z+j) 0 with y|y
   ·rw[Ars (.inl y)]at h;cases h.1
   ·exact .inr y
  ·exact X.Bg7 d j
section
variable (A:Ca disp)(hK:10000<K)(C:Eb h0 B X F)(ga5:h0.get a5=some (.cells [.ptr B.c 0] 26))
include A hK C ga5
theorem Bhm {l0:Nat}(t5:tmp tm 5=.ptr a5 0)(t21:tmp tm 21=.ptr h0.next 0)(l:h0.next+3<l0)(he:10<=e){d z best best':Int}(hz:Tk z)(hb0:best = -1\/0<=best)(u:best'=if X.closed z=true/\(best = -1\/X.live z<X.live best)then z else best)(H:Bdz F h0 h l0 tm X.S.g d best):
 Ok (Ag TT disp K e true l0 [I z] h) fun v h'=>v=.bool true/\Bdz F h0 h' l0 tm X.S.g d best':=by
 obtain⟨e,rfl⟩:∃k,e=k+1:=⟨e-1,by omega⟩;have hg:=H.lp;have J:=hg;unfold As at J;rw[Bpc]at J;rw[Wq A (by omega) tm h (I z) J,t5,t21];have hb:=H.q.hb;have ad:=hb _ _ hg;simp only[P9,Qo hg,Mx,dr];have kp:∀i o,h.get i=some o->i≠l0->(h.put l0 (As TT 3 196 1 tm .busy none (l0-1))).get i=some o:=fun i o g hi=>by rw[Af _ (cN hi)];exact g
 have M:(h.put l0 (As TT 3 196 1 tm .busy none (l0-1))).get l0=some (As TT 3 196 1 tm .busy none (l0-1)):=Ae _ _ _;have gd:=kp _ _ H.dd (by omega);have G:=kp _ _ H.cb (by omega);have W:=kp _ _ H.gq (by omega);have gq:=kp _ _ H.dq (by omega);have O:Qt F h0 (h.put l0 (As TT 3 196 1 tm .busy none (l0-1))):=H.q.U6 ((Ar.refl (S:=fun i=>i=l0) h).Ak (.inl rfl) ad _) fun i hi=>by omega
 clear kp;generalize h.put l0 (As TT 3 196 1 tm .busy none (l0-1))=h1 at M gd G W gq O⊢;have Y:=(C.rd O).C;have g2:=O.at C.hb ga5;have l2:=O.hb _ _ g2;have l5:=O.hb _ _ G;have lc:=Y.hb _ _ Y.core;rw[Auq,Ah l2 (by kernel_rfl),Aj g2 rfl (v:=.ptr B.c 0) rfl];simp only[Aw];refine Ok.Yh (S:=fun i=>¬F i) (by kernel_rfl) (by kernel_rfl) (fun _=>by kernel_rfl) (Vp A hK Y.lift (d:=e) (by omega) hz) (fun _ _ p=>p.2.chg) ?_;rintro _ aw h2 s' ⟨rfl,af⟩ sm c2 f;have P:Qt F h1 h2:=af.big sm c2;have x:=O.trans P;have C2:=(C.rd x).C;have t:∀{i o},h1.get i=some o->h2.get i=some o:=fun g=>P.at Y.hb g
 have ax:Fj (.tuple []) false=false/\Fj (.tuple []) true=false:=⟨rfl,rfl⟩;have fin:∀(bs:Nat) (s:DX) (b:Bool),b=decide (best'=z/\(X.closed z=true/\(best = -1\/X.live z<X.live best)))->(b=false->best'=best)->Ok (Cq (Ag TT disp K e false) (Ag TT disp K e true) K l0 bs s (.ptr h0.next 0) (I z) (.bool true) (.bool b) h2) fun v h'=>v=.bool true/\Bdz F h0 h' l0 tm X.S.g d best':=fun bs s b e1 e2=>by
  have E:=P.hb _ _ (t M);have ag:=P.hb _ _ (t G);cases b with
  | true=>
   have ah:=(cP e1.symm).1;simp only[Cq,Aa,Ad];refine Ok.Zl (t G) rfl rfl (by show 0<1;decide) ?_;rw[Js (by rw[Af _ (by omega)];exact t M)];have kk:∀i,i≠l0->i≠h0.next->((h2.put h0.next (.cells ([I best].set 0 (I z)) 3)).put l0 (As TT 3 196 1 tm .ready none (l0-1))).get i=h2.get i:=fun i a b=>by rw[Af _ (cN a),Af _ (cN b)]
   refine .ret ⟨rfl,x.U6 (((Ar.refl (S:=fun i=>h0.next<=i) h2).Ak (.inl (by omega)) ag _).Ak (.inl (by omega)) E _) (fun i hi=>hi),Ae _ _ _,?_,?_,?_,?_⟩
   ·rw[kk _ (by omega) (by omega)];exact t gd
   ·rw[Af _ (by omega),ah];exact Ae _ _ _
   ·rw[kk _ (by omega) (by omega)];exact t W
   ·rw[kk _ (by omega) (by omega)];exact t gq
  | false=>
   rw[e2 rfl];simp only[Cq,Aa,Ad];rw[Js (t M)];exact .ret ⟨rfl,x.U6 ((Ar.refl (S:=fun i=>i=l0) h2).Ak (.inl rfl) E _) (fun i hi=>by omega),Ae _ _ _,by rw[Af _ (by omega)];exact t gd,by rw[Af _ (by omega)];exact t G,by rw[Af _ (by omega)];exact t W,by rw[Af _ (by omega)];exact t gq⟩
 cases T:X.closed z with
 | false=>
  have ai:best'=best:=by rw[u,aK (by rw[T];simp)]
  have E:=P.hb _ _ (t M);rw[ai];simp only[Aa,Ad,Es,Er,Cq];rw[Js (t M)];exact .ret ⟨rfl,x.U6 ((Ar.refl (S:=fun i=>i=l0) h2).Ak (.inl rfl) E _) (fun i hi=>by omega),Ae _ _ _,by rw[Af _ (by omega)];exact t gd,by rw[Af _ (by omega)];exact t G,by rw[Af _ (by omega)];exact t W,by rw[Af _ (by omega)];exact t gq⟩
 | true=>
 simp only[Aa,Ad];rw[Ah l5 (by rcases f with rfl|⟨w,rfl,_⟩<;>kernel_rfl),Aj (t G) rfl (v:=I best) rfl];simp only[I,Ad];by_cases U:best<0
 ·have hm:best = -1:=by omega
  have:=fun bs s=>fin bs s true (by rw[eq_comm,dD];exact⟨by rw[u,aN ⟨T,.inl hm⟩],T,.inl hm⟩) (fun y=>by cases y)
  simp only[U,aB,Aa,Ad,Es,Er];simp only[Cq,Aa,Ad,I]at this;simp only[Cq,Aa,Ad];exact this 0 ⟨0,[],[],[],[]⟩
 have hm:¬best = -1:=by omega
 simp only[U,aA,Aa,Ad,Es];rw[Ah l2 (by rcases f with rfl|⟨w,rfl,_⟩<;>kernel_rfl),Aj (t g2) rfl (v:=.ptr B.c 0) rfl];have cm:E1 K (.ptr B.c 0) h2.lift=some (.ptr B.b 0,h2.lift):=by
  simp only[E1,Aa];rw[C2.lift.ldB]
 rw[Ji (by rcases f with rfl|⟨w,rfl,_⟩<;>kernel_rfl) (by rcases f with rfl|⟨w,rfl,_⟩<;>kernel_rfl) cm];have ml:=Vl (K:=K) C2.lift.map;simp only[I]at ml;rw[Ji (by rcases f with rfl|⟨w,rfl,_⟩<;>kernel_rfl) (by rcases f with rfl|⟨w,rfl,_⟩<;>kernel_rfl) (ml z)];rw[Ah l2 (by rcases f with rfl|⟨w,rfl,_⟩<;>kernel_rfl),Aj (t g2) rfl (v:=.ptr B.c 0) rfl];rw[Ji (by rcases f with rfl|⟨w,rfl,_⟩<;>kernel_rfl) (by rcases f with rfl|⟨w,rfl,_⟩<;>kernel_rfl) cm];rw[Ah l5 (by rcases f with rfl|⟨w,rfl,_⟩<;>kernel_rfl),Aj (t G) rfl (v:=I best) rfl];simp only[I];rw[Ji (by rcases f with rfl|⟨w,rfl,_⟩<;>kernel_rfl) (by rcases f with rfl|⟨w,rfl,_⟩<;>kernel_rfl) (ml best)];simp only[Ad,Er,Aa];by_cases V:X.live z<X.live best
 ·have:=fun bs s=>fin bs s true (by rw[eq_comm,dD];exact⟨by rw[u,aN ⟨T,.inr V⟩],T,.inr V⟩) (fun y=>by cases y)
  have e3:decide (Afm X.S.g X.es z<Afm X.S.g X.es best)=true:=aP V;simp only[e3];exact this _ _
 ·have ne:¬(X.closed z=true/\(best = -1\/X.live z<X.live best)):=fun y=>y.2.elim hm V
  have:=fun bs s=>fin bs s false (by rw[eq_comm,cS];exact fun y=>ne y.2) (fun _=>by rw[u,aK ne])
  have e3:decide (Afm X.S.g X.es z<Afm X.S.g X.es best)=false:=aQ V;simp only[e3];exact this _ _
end
end
section
section
variable (A:Ca disp)(hK:10000<K)(C:Eb h0 B X F)(ga2:h0.get a2=some (.cells (gL X.S.g) 23))(ga5:h0.get a5=some (.cells [.ptr B.c 0] 26))(hd:12<=d)(hn:X.S.g.D*X.S.g.Z=n)
include A hK C ga2 ga5 hn hd
theorem Bo3(G:∀h',Qt F h0 h'->Q (.bool true) h')(v:VL F h0 h ds):
 Ok (Fm (Ag TT disp K d false) (Ag TT disp K d true) K tm (.ptr a2 0) (.ptr a5 0) (I (X.Is n)) h ds) Q:=by
 have bd:=C.sm.Wj;have H:=(C.rd v.q).C;have E:=v.q.at C.hb ga5;have J:=v.q.at C.hb ga2;have k:=v.q.hb _ _ E;have M:=v.q.hb _ _ J;simp only[Fm,dr];rw[Auq,Ah k (by kernel_rfl),Aj E rfl (v:=.ptr B.c 0) rfl];simp only[Aw];refine Ok.Yh (S:=fun i=>¬F i) (by kernel_rfl) (by kernel_rfl) (fun _=>by kernel_rfl) (A03 A hK H.lift (d:=d) (by omega)) (fun _ _ p=>p.2.chg) ?_;rintro _ O h2 s2 ⟨rfl,o⟩ sm c2 a;have v2:=v.step (o.big sm c2);rw[hn,bK];simp only[I,Ad,aB,Aa];have T:=(C.rd v2.q).C;rw[Ah k (by rcases a with rfl|⟨w,rfl,_⟩<;>kernel_rfl),Aj (v2.q.at C.hb ga5) rfl (v:=.ptr B.c 0) rfl];refine Ok.Yh (S:=fun i=>¬F i) (by rcases a with rfl|⟨w,rfl,_⟩<;>kernel_rfl) (by rcases a with rfl|⟨w,rfl,_⟩<;>kernel_rfl) (fun _=>by rcases a with rfl|⟨w,rfl,_⟩<;>kernel_rfl) (Vp A hK T.lift (d:=d) (by omega) (z:=-1) ⟨by omega,by omega⟩) (fun _ _ p=>p.2.chg) ?_;rintro _ U V s3 ⟨rfl,t⟩ u c3 f;have v3:=v2.step (t.big u c3);rw[Ars (.inl (by omega))];simp only[Aa,Ad,Kk];have W:=(C.rd v3.q).C;have n3:=v3.q.next
 rw[Ah k (by rcases f with rfl|⟨w,rfl,_⟩<;>rcases a with rfl|⟨w,rfl,_⟩<;>kernel_rfl),Aj (v3.q.at C.hb ga5) rfl (v:=.ptr B.c 0) rfl];rw[Ah M (by rcases f with rfl|⟨w,rfl,_⟩<;>rcases a with rfl|⟨w,rfl,_⟩<;>kernel_rfl),C8 (v3.q.at C.hb ga2) rfl,Am (n:=6) rfl]
 try simp only[Aa]
 rw[show EV.agg (gL X.S.g)=gV X.S.g from rfl];refine Ok.Ds (by rcases f with rfl|⟨w,rfl,_⟩<;>rcases a with rfl|⟨w,rfl,_⟩<;>kernel_rfl) (by rcases f with rfl|⟨w,rfl,_⟩<;>rcases a with rfl|⟨w,rfl,_⟩<;>kernel_rfl) (P:=fun v h'=>v=I (X.S.g.D*X.S.g.Z)/\Ext V.lift h') ⟨_,_,Lh C.sm _,rfl,Ar.new _ _⟩ (fun _ _ p=>p.2) ?_;rintro _ _ h4 ⟨rfl,_⟩ _ Y;have v4:=v3.step (Qt.ext Y W.hb);have C4:=(C.rd v4.q).C;refine Ok.Yh (S:=fun i=>¬F i) (by rcases f with rfl|⟨w,rfl,_⟩<;>rcases a with rfl|⟨w,rfl,_⟩<;>kernel_rfl) (by rcases f with rfl|⟨w,rfl,_⟩<;>rcases a with rfl|⟨w,rfl,_⟩<;>kernel_rfl) (fun _=>by rcases f with rfl|⟨w,rfl,_⟩<;>rcases a with rfl|⟨w,rfl,_⟩<;>kernel_rfl) (Vp A hK C4.lift (d:=d) (by omega) (z:=X.S.g.D*X.S.g.Z) ⟨by omega,by omega⟩) (fun _ _ p=>p.2.chg) ?_;rintro _ ab h5 s5 ⟨rfl,x⟩ y c5 ad;have v5:=v4.step (x.big y c5);rw[Ars (.inr (Int.le_refl _))];simp only[Aa,Ad,Km];exact v5.end true G
theorem Bnz(H27:disp 27=some (Akv F27))(hQ:∀h',Qt F h0 h'->Q (.bool true) h'):∀(f:Nat) (z:Int) (tm:Ax) (h:Ab) (ds:List Nat),(X.S.g.D+1-z).toNat<f->-1<=z->z<=X.S.g.D+1->Tm a5 a8 tm->VL F h0 h ds ->
 Ok (Ef (Ag TT disp K d false) (Ag TT disp K d true) K f tm (.ptr a2 0) (.bool false) (.ptr a5 0) (I (X.Is n)) (I z) h ds) Q:=by
 intro f;induction f with
 | zero=>intro z tm h ds hf;omega
 | succ f ih=>
  intro z tm h ds hf z0 z1 T v;obtain⟨e,rfl⟩:∃k,d=k+1:=⟨d-1,by omega⟩;have s:=C.sm;have:=s.d1;have:=s.z1;have:=s.z0;have:=s.d0;have Ch:=(C.rd v.q).C;have hb:=Ch.hb;have g5:=v.q.at C.hb ga5;have g2:=v.q.at C.hb ga2;rw[Ef];have gD:∀k:EV->R,Dr (.ptr a2 0) h k=k (I X.S.g.D):=fun k=>Aj g2 rfl rfl
  simp only[Aa,gD,I,Ad];by_cases hle:z<=X.S.g.D
  case neg=>
   simp only[hle,aA,Aa];exact Bo3 A hK C ga2 ga5 hd hn hQ v
  simp only[hle,aB,Aa,Qa];refine Ok.Zl (Ac _ _) rfl rfl (by show 0<1;decide) ?_;have O:Ext h ((h.new (.cells [.int .i64 0] 3)).put h.next (.cells ([EV.int .i64 0].set 0 (.int .i64 (-1))) 3)):=(Ar.new h _:Ext _ _).Ak (.inr (aC _)) (aE _) _;have V:((h.new (.cells [.int .i64 0] 3)).put h.next (.cells ([EV.int .i64 0].set 0 (.int .i64 (-1))) 3)).next=h.next+1:=rfl
  have g1:((h.new (.cells [.int .i64 0] 3)).put h.next (.cells ([EV.int .i64 0].set 0 (.int .i64 (-1))) 3)).get h.next=some (.cells [I (-1)] 3):=Ae _ _ _
  generalize (h.new (.cells [.int .i64 0] 3)).put h.next (.cells ([EV.int .i64 0].set 0 (.int .i64 (-1))) 3)=u at O V g1⊢
  have G:=O.hb hb;rw[C8 (O.at hb g2) rfl,Am (n:=6) rfl];simp only[Tb,Aa];have P:Ext u ((u.new (.cells (gL X.S.g) 23)).new (.cells [.int .i64 z] 3)):=(Ar.new _ _).Di _;have n3:((u.new (.cells (gL X.S.g) 23)).new (.cells [.int .i64 z] 3)).next=u.next+2:=rfl
  have gg:((u.new (.cells (gL X.S.g) 23)).new (.cells [.int .i64 z] 3)).get u.next=some (.cells (gL X.S.g) 23):=by rw[Ay _ (aE _)];exact Ac _ _
  have gd:((u.new (.cells (gL X.S.g) 23)).new (.cells [.int .i64 z] 3)).get (u.next+1)=some (.cells [I z] 3):=Ac _ _;rw[show(u.new (.cells (gL X.S.g) 23)).next=u.next+1 from rfl];generalize (u.new (.cells (gL X.S.g) 23)).new (.cells [.int .i64 z] 3)=t at P n3 gg gd⊢;have x:=P.hb G;have W:Ext h t:=O.trans P;generalize y:(((((((((tm.put 146 (some (EV.int .i64 z))).put 147 (some (EV.ptr a2 0))).put 148 (some (EV.int .i64 X.S.g.D))).put 149 (some (EV.bool true))).put 21 (some (EV.ptr h.next 0))).put 152 (some (EV.agg (gL X.S.g)))).put 153 (some (EV.int .i64 z))).put 154 (some (EV.func 82 [] [EV.ptr (u.next+1) 0,EV.ptr u.next 0]))))=o;have T1:Tm a5 a8 o:=by
   rw[<-y]
   repeat (first|exact T|refine Tm.put ?_ (by decide) (by decide))
  have t21:tmp o 21=.ptr h.next 0:=by rw[<-y];simp only[Ei,reduceIte,Nat.reduceEqDiff]
  clear y;have cl:Bkd disp K e (t.next+1) (h.next+2) (h.next+1) X.S.g z (fun j h'=>Bdz F h h' (t.next+1) o X.S.g z (X.few z j)) (fun _=>False):=by
   refine⟨fun j hj h' w=>?_,fun j h w=>w.dq,fun j h w=>w.gq⟩;have hz:Tk (z*X.S.g.Z+j):=by
    obtain⟨m0,m1⟩:=N1 (a:=z+9) (b:=X.S.g.Z) (A:=18) (B:=64) (by omega) (by omega) (by omega) (by omega);rw[Int.add_mul]at m0 m1;exact⟨by omega,by omega⟩
   obtain⟨v',h',e1,rfl,w'⟩:=Bhm (K:=K) A hK Ch g5 T1.t5 t21 (l0:=t.next+1) (by omega) (e:=e) (by omega) (d:=z) (best':=X.few z (j+1)) hz (X.Bg7 z j) rfl w;refine⟨true,h',e1,?_⟩;rw[aN rfl];exact w'
  have U:Ext t (Bq TT 3 196 1 o t):=Gh;have I0:Bdz F h (Bq TT 3 196 1 o t) (t.next+1) o X.S.g z (X.few z 0):=⟨Qt.ext (W.trans U) hb,Gc,G3,U.at x (P.at G g1),by rw[<-V];exact U.at x gg,by rw[show h.next+2=u.next+1 by omega];exact U.at x gd⟩;rw[V];refine Ok.Bax (K:=K) A (by omega) cl (by omega) s I0 (fun h4 w=>?_) fun h4 w=>w.elim
  have w:Bdz F h h4 (t.next+1) o X.S.g z (X.Aie z):=by
   unfold Co.Aie;by_cases H:0<=z/\z<X.S.g.D
   ·rw[aN H]at w⊢;exact w
   ·rw[aK H]at w⊢;exact w
  refine⟨w.lp,?_⟩;have Y:=w.q.hb;have l4:=Y _ _ w.lp;have q5:Qt F h (h4.put (t.next+1) (As TT 3 196 1 o .exhausted none t.next)):=w.q.U6 ((Ar.refl (S:=fun i=>i=t.next+1) h4).Ak (.inl rfl) l4 _) fun i hi=>by omega
  have gf:(h4.put (t.next+1) (As TT 3 196 1 o .exhausted none t.next)).get h.next=some (.cells [I (X.Aie z)] 3):=by rw[Af _ (by omega)];exact w.cb
  have J:(h4.put (t.next+1) (As TT 3 196 1 o .exhausted none t.next)).get t.next=some (.deferred true):=by rw[Af _ (by omega)];exact w.dd
  generalize h4.put (t.next+1) (As TT 3 196 1 o .exhausted none t.next)=h5 at q5 gf J⊢;have E:=v.cons q5 (d:=t.next) (by omega) J;have C5:=(C.rd E.q).C;have M:=E.q.at C.hb ga5;have ab:=E.q.hb _ _ M;have lf:=E.q.hb _ _ gf;simp only[Kn,dr];rw[Auq,Ah ab (by kernel_rfl),Aj M rfl (v:=.ptr B.c 0) rfl];simp only[Aw];refine Ok.Ds (by kernel_rfl) (by kernel_rfl) (Bfa A hK C5.lift H27 (dp:=e+1) (by omega) (d:=z) ⟨by omega,by omega⟩) (fun _ _ p=>p.2) ?_;rintro _ bf h6 ⟨rfl,_⟩ bj x6;have q6:Qt F h5 h6:=Qt.ext x6 E.q.hb;have v6:=E.step q6;rw[Ah lf (by kernel_rfl),Aj (q6.at E.q.hb gf) rfl (v:=I (X.Aie z)) rfl];simp only[I,Ad,aD,aA,Aa,Kj];rw[Cn (by omega) (by omega)];refine ih (z+1) _ h6 _ (by omega) (by omega) (by omega) ?_ v6
  repeat (first|exact T1|refine Tm.put ?_ (by decide) (by decide))
end
end
theorem Bgk(S:Nat)(k:EV->R):Kv Ala (bin TT .eql 26) (.ptr S 0) .Cl k=k (.bool false):=by kernel_rfl
theorem Bdq(k:EV->R):Kv Ala (bin TT .eql 26) .Cl .Cl k=k (.bool true):=by kernel_rfl
structure Aw7(h:Ab)(N:Nat)(v:EV)(b:Nat)(L:List Ab2):Prop where
 row:(L = []/\lenOf v=some 0)\/(b<N/\∃off r op,v=.slice b off L.length r op/\∀j (hj:j<L.length) (k:EV->R),Oc 72 (.ptr b (off+j*72)) h k=k (.agg L[j].cells))
 N8:∀o∈L,o.At h/\(0<o.bs.length->o.bq<N)/\o.bs.length<=1048576/\Tk o.x
theorem Aw7.frame{N:Nat}(r:Aw7 h N v b L)(e:∀i,i<N->h'.get i=h.get i):Aw7 h' N v b L:=by
 refine⟨?_,fun o p=>?_⟩
 ·rcases r.row with y|⟨hb,off,q,op,rfl,y⟩
  ·exact .inl y
  ·refine .inr ⟨hb,off,q,op,rfl,fun j hj k=>?_⟩
   have:=y j hj k;show oB _ (Aon (h'.get b) _ 72)=_;rw[e b hb];exact this
 ·obtain⟨a,c,d,f⟩:=r.N8 o p
  exact⟨⟨a.row.frame fun y=>e _ (c y),a.ev,a.pl⟩,c,d,f⟩
theorem Aw7.Hz{N:Nat}(r:Aw7 h N v b L)(k:EV->R):Ev.Hz v k=k (I L.length):=by
 rcases r.row with⟨rfl,y⟩|⟨_,off,a,op,rfl,_⟩
 ·unfold Ev.Hz;rw[y];rfl
 ·rfl
theorem Aw7.at{N:Nat}(r:Aw7 h N v b L)(hj:j<L.length)(k:EV->R):X8 72 v (.int .i64 (j:Int)) (fun p=>Oc 72 p h k)=k (.agg L[j].cells):=by
 rcases r.row with⟨rfl,_⟩|⟨_,off,a,op,rfl,y⟩
 ·exact absurd hj (cT _)
 ·rw[Mg hj];exact y j hj k
theorem Bbr:(List.replicate 3 (EV.int .i64 0)++[EV.Ao]++List.replicate 4 (EV.int .i64 0)++List.replicate 64 (EV.int .u8 0)).length=72:=by kernel_rfl
section
variable (A:Ca disp)(H105:disp 105=some A55)(H27:disp 27=some (Akv F27))(hK:3000000<K)(hd:31<=d){N:Nat}{g:Gm}(lF:∀i,i<N->F i)(l0:N<=h0.next)(hb0:HB h0)(f2:F a2)(f5:F a5)(ga2:h0.get a2=some (.cells (gL g) 23))(ga5:h0.get a5=some (.cells [.ptr B.c 0] 26))(R0:Aw7 h0 N v1 b L)(hL:L.length<=40)
include A H105 hK hd lF l0 hb0 f2 f5 ga5 R0 hL
theorem Bin(kk:∀tm h X,tmp tm 5=.ptr a5 0->Eb h B X F->X.S.g=g->Kf F h0 h->Ok (E5 (Ag TT disp K d false) (Ag TT disp K d true) K tm (.ptr a2 0) (.bool false) (.ptr a5 0) h []) Q):∀(f i:Nat) (tm:Ax) (h:Ab) (X:Co),L.length-i<f->i<=L.length->tmp tm 5=.ptr a5 0->Eb h B X F->X.S.g=g->X.S.evs<=i->Kf F h0 h ->
 Ok (D3 (Ag TT disp K d false) (Ag TT disp K d true) K f tm (.ptr a2 0) (.bool false) (.ptr a5 0) v1 (I L.length) (I i) h []) Q:=by
 intro f;induction f with
 | zero=>intro i tm h X V;omega
 | succ f ih=>
  intro i tm h X V hi t5 C H ev E;rw[D3];have wi:∀k:EV->R,Af2 (I i) (I L.length) k=k (.bool (decide ((i:Int)<(L.length:Int)))):=fun k=>by simp only[I,Ad]
  dsimp only;rw[wi];have u:∀{n:Nat} {v:EV} {tm:Ax},tmp tm 5=.ptr a5 0->n≠5->tmp (tm.put n (some v)) 5=.ptr a5 0:=fun t hn=>by rw[Ei,aK (by omega)];exact t
  by_cases a:i<L.length
  ·rw[aP (by omega)]
   have G:=R0.frame (h':=h) fun j hj=>E.get j (by omega) fun y=>y (lF j hj)
   simp only[Aa,O8];have W:=G.at a;show Ok (X8 72 v1 (.int .i64 (i:Int)) _) Q;obtain⟨oa,ob,J,O⟩:=G.N8 _ (bF a);obtain⟨p,P⟩:∃p,∀k:EV->R,X8 72 v1 (.int .i64 (i:Int)) k=k p:=by
    rcases G.row with⟨rfl,_⟩|⟨_,off,r',op,rfl,y⟩
    ·exact absurd a (cT _)
    ·exact⟨_,fun k=>Mg a⟩
   rw[P];have hl:∀k:EV->R,Oc 72 p h k=k (.agg L[i].cells):=fun k=>by
    have:=W k;rw[P]at this;exact this
   rw[hl];generalize L[i]=o at oa ob J O;have ol:=Ab2.len oa.ev;refine Ok.st o.cells (Ac _ _) rfl (by show F9 o.cells=72;rw[Bf,ol]) (Bm (by show _=o.cells.length;rw[ol];exact Bbr)) ?_;have hz:=Bbr;generalize List.replicate 3 (EV.int .i64 0)++[EV.Ao]++List.replicate 4 (EV.int .i64 0)++List.replicate 64 (EV.int .u8 0)=q at hz⊢;have x:Ext h ((h.new (.cells q 34)).put h.next (.cells o.cells 34)):=(Ar.new h _:Ext _ _).Ak (.inr (aC _)) (aE _) _;have T:((h.new (.cells q 34)).put h.next (.cells o.cells 34)).get h.next=some (.cells o.cells 34):=Ae _ _ _
   generalize (h.new (.cells q 34)).put h.next (.cells o.cells 34)=h2 at x T⊢
   have U:=E.trans (Ext.kf x);rw[Dj T rfl (Am ol),Aj (Kf.at U hb0 ga5 f5) rfl (v:=.ptr B.c 0) rfl];have C2:=(C.toE x).C;have o2:o.At h2:=⟨oa.row.frame fun y=>x.get _ (by have:=C.M.lt _ (.inl (lF _ (ob y)));exact this) id,oa.ev,oa.pl⟩;refine(Blq (K:=K) A H105 hK C2 o2 J (fun y=>lF _ (ob y)) (by omega) O hd).Ap ?_;rintro _ h3 ⟨e,Y,rfl,D⟩;simp only[Pb,I,Ad];rw[Cn (by omega) (by omega),show((i:Nat):Int)+1=((i+1:Nat):Int) by omega];refine ih (i+1) _ h3 Y (by omega) (by omega) ?_ D.C (D.g.trans H) (by have:=D.ev;omega) (U.trans D.k)
   repeat (first|exact t5|refine u ?_ (by decide))
  ·rw[aQ (by omega)]
   simp only[Aa];exact kk _ _ X (u t5 (by decide)) C H E
include ga2 H27
theorem Bpb(P:∀h',Kf F h0 h'->Q (.bool true) h')(t5:tmp tm 5=.ptr a5 0)(C:Eb h B X F)(U:X.S.g=g)(x:Kf F h0 h):Ok (E5 (Ag TT disp K d false) (Ag TT disp K d true) K tm (.ptr a2 0) (.bool false) (.ptr a5 0) h []) Q:=by
 subst U;have s:=C.sm;have bd:=s.Wj;have J:=x.at hb0 ga5 f5;have O:=x.at hb0 ga2 f2;simp only[E5,Ll,Aa];rw[Aj J rfl (v:=.ptr B.c 0) rfl];simp only[Aa];rw[C.ldM]
 try simp only[Aa]
 refine Ok.Zl (Ac _ _) rfl rfl (by show 0<1;decide) ?_;have p:Ext h ((h.new (.cells [.Cl] 37)).put h.next (.cells ([EV.Cl].set 0 (.ptr B.m 0)) 37)):=(Ar.new h _:Ext _ _).Ak (.inr (aC _)) (aE _) _;have E:((h.new (.cells [.Cl] 37)).put h.next (.cells ([EV.Cl].set 0 (.ptr B.m 0)) 37)).get h.next=some (.cells [.ptr B.m 0] 37):=Ae _ _ _
 have V:((h.new (.cells [.Cl] 37)).put h.next (.cells ([EV.Cl].set 0 (.ptr B.m 0)) 37)).next=h.next+1:=rfl
 generalize (h.new (.cells [.Cl] 37)).put h.next (.cells ([EV.Cl].set 0 (.ptr B.m 0)) 37)=t at p E V⊢
 have G:Eb t B X (fun i=>F i\/i=h.next):=(C.ext p).less fun i hi=>by
  rcases hi with hi|rfl
  ·exact .inl hi
  ·exact .inr ⟨aC _,by omega⟩
 rw[Aj E rfl (v:=.ptr B.m 0) rfl,Av6 G.M]
 try simp only[Aa]
 rw[C8 (p.at C.hb O) rfl,Am (n:=6) rfl]
 try simp only[Aa]
 rw[show EV.agg (gL X.S.g)=gV X.S.g from rfl,Lh s,Au];obtain⟨n,hn⟩:=bD (show 0<=X.S.g.D*X.S.g.Z by omega);have u:Ext t (t.new (.cells (gL X.S.g) 23)):=Ar.new _ _;generalize t.new (.cells (gL X.S.g) 23)=h2 at u⊢;have H:=(G.toE u).C;have k:=p.trans u;have a:=Ext.at k C.hb O;have f:=Ext.at k C.hb J;have o:=u.at G.hb E;rw[hn];refine Bon (d:=d) A (by omega) H a f o (by omega) hn (fun tm W ds T v=>?_) K 0 _ h2 [] (by omega) (by omega) ?_ ⟨Qt.refl H.hb,cj,fun _ y=>by cases y⟩
 ·simp only[Fk,dr]
  refine Bnz (a8:=h.next) A (by omega) H a f (by omega) hn H27 (fun h' q=>P h' ?_) K (-1) _ W ds (by have:=s.d1;have:=s.d0;omega) (by omega) (by have:=s.d0;omega) (T.put (by decide) (by decide)) v;exact(x.trans (Ext.kf k)).trans (q.chg.less fun i=>.inl)
 ·refine⟨?_,?_⟩
  ·simp only[Ei,reduceIte,Nat.reduceEqDiff];exact t5
  ·simp only[Ei,reduceIte,Nat.reduceEqDiff]
end
theorem A99(A:Ca disp)(H105:disp 105=some A55)(H27:disp 27=some (Akv F27))(hK:3000000<K)(hd:31<=d)(O:∀h,Ag TT disp K d false 10 [] h=some (.bool true,h))(g:Gm)(hb:HB h)(R0:Aw7 h h.next v1 b L):
 Ok (Mj (Ag TT disp K d false) (Ag TT disp K d true) K (gV g) v1 h) fun v h'=>v=.bool true/\∀i,i<h.next->h'.get i=h.get i:=by
 simp only[Mj,gV,Aa,O];have J:Ext h (h.new (.cells (gL g) 23)):=Ar.new _ _;have P:(h.new (.cells (gL g) 23)).get h.next=some (.cells (gL g) 23):=Ac _ _
 have V:(h.new (.cells (gL g) 23)).next=h.next+1:=rfl
 generalize h.new (.cells (gL g) 23)=p at J P V⊢;have t:=J.hb hb;simp only[O7,Aa];rw[C8 P rfl,Am (n:=6) rfl]
 try simp only[Aa]
 rw[show EV.agg (gL g)=gV g from rfl];refine(A2l (K:=K) A (by omega) (d:=d) (by omega) g t).Ap ?_;rintro v h2 ⟨u,E,M⟩;have R2:Aw7 h2 h.next v1 b L:=R0.frame fun i hi=>by rw[u.get i (by omega) fun y=>y (show i<p.next by omega),J.get i hi id]
 have T:=u.at t P (show h.next<p.next by omega);have W:Fj (.tuple []) false=false/\Fj (.tuple []) true=false:=⟨rfl,rfl⟩;have a:∀(F:Nat->Prop) (h0 h':Ab),(∀i,i<p.next->F i)->Ext h2 h0->Kf F h0 h'->∀i,i<h.next->h'.get i=h.get i:=fun F h0 h' Y x k i hi=>by
  have t1:=u.next
  have t2:=x.next
  rw[k.get i (by omega) fun y=>y (Y i (by omega)),x.get i (by omega) id,u.get i (by omega) fun y=>y (show i<p.next by omega),J.get i hi id]
 by_cases U:rtB g=true/\g.D*g.Z<=64
 case neg=>
  rw[aK U]at M;subst M;refine Ok.Zl (Ac _ _) rfl rfl (by show 0<1;decide) ?_;have f:Ext h2 ((h2.new (.cells [.Cl] 26)).put h2.next (.cells ([EV.Cl].set 0 .Cl) 26)):=(Ar.new h2 _:Ext _ _).Ak (.inr (aC _)) (aE _) _;have q:((h2.new (.cells [.Cl] 26)).put h2.next (.cells ([EV.Cl].set 0 .Cl) 26)).get h2.next=some (.cells [.Cl] 26):=Ae _ _ _
  generalize (h2.new (.cells [.Cl] 26)).put h2.next (.cells ([EV.Cl].set 0 .Cl) 26)=o at f q⊢
  rw[Aj q rfl (v:=.Cl) rfl,Bdq];simp only[Aa,Ad,Fa];exact .ret ⟨rfl,a (fun _=>True) o o (fun _ _=>trivial) f (Ar.refl _)⟩
 rw[aN U]at M;obtain⟨B,rfl,C2,lB⟩:=M;refine Ok.Zl (Ac _ _) rfl rfl (by show 0<1;decide) ?_;have f:Ext h2 ((h2.new (.cells [.Cl] 26)).put h2.next (.cells ([EV.Cl].set 0 (.ptr B.c 0)) 26)):=(Ar.new h2 _:Ext _ _).Ak (.inr (aC _)) (aE _) _;have q:((h2.new (.cells [.Cl] 26)).put h2.next (.cells ([EV.Cl].set 0 (.ptr B.c 0)) 26)).get h2.next=some (.cells [.ptr B.c 0] 26):=Ae _ _ _
 have n3:((h2.new (.cells [.Cl] 26)).put h2.next (.cells ([EV.Cl].set 0 (.ptr B.c 0)) 26)).next=h2.next+1:=rfl
 generalize (h2.new (.cells [.Cl] 26)).put h2.next (.cells ([EV.Cl].set 0 (.ptr B.c 0)) 26)=o at f q n3⊢
 have G:=f.hb E;have t2:=u.next
 rw[Aj q rfl (v:=.ptr B.c 0) rfl,Bgk];simp only[Aa,Ad];rw[R2.Hz];simp only[I,Ad];have R3:Aw7 o h.next v1 b L:=R2.frame fun i hi=>f.get i (by omega) id
 by_cases H:40<(L.length:Int)
 ·simp only[H,aB,Aa,Ad,Fa]
  exact .ret ⟨rfl,a (fun _=>True) o o (fun _ _=>trivial) f (Ar.refl _)⟩
 simp only[H,aA,Aa,Ad,Fa,O9];rw[R3.Hz];have C3:Eb o B (Co.start g) (fun i=>i<p.next\/i=h2.next):=(C2.ext f).less fun i hi=>by
  rcases hi with hi|rfl
  ·exact .inl hi
  ·exact .inr ⟨aC _,by omega⟩
 have lF:∀i,i<h.next->(fun i=>i<p.next\/i=h2.next) i:=fun i hi=>.inl (by omega)
 have hQ:∀h',Kf (fun i=>i<p.next\/i=h2.next) o h'->(EV.bool true=.bool true/\∀i,i<h.next->h'.get i=h.get i):=fun h' k=>⟨rfl,a _ o h' (fun i hi=>.inl hi) f k⟩
 have gs:(Co.start g).S.g=g:=(Aea (Sh g) (Sc g) (Mi.new g) (g.D*g.Z).toNat).2.1;have es:(Co.start g).S.evs<=0:=by
  unfold Mi.evs;rw[show(Co.start g).S.dr=(Mi.new g).dr from(Aea (Sh g) (Sc g) (Mi.new g) (g.D*g.Z).toNat).2.2];exact aC _
 refine Bin (K:=K) (Q:=fun v h'=>v=.bool true/\∀i,i<h.next->h'.get i=h.get i) A H105 hK hd lF (by omega) G (.inl (by omega)) (.inr rfl) q R3 (by omega) (fun tm h' X t5 C gX k=>Bpb (K:=K) A H105 H27 hK hd lF (by omega) G (.inl (by omega)) (.inr rfl) (f.at E T) q R3 (by omega) hQ t5 C gX k) K 0 _ o _ (by omega) (by omega) ?_ C3 gs es (Ar.refl _);simp only[Ei,reduceIte,Nat.reduceEqDiff]
end Go.Ev
