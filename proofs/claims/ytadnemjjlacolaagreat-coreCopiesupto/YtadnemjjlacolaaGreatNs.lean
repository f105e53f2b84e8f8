import Derived.Test.YtadnemjjlacolaaGreatLb
import Derived.Test.YtadnemjjlacolaaGreatNe
import Derived.Test.YtadnemjjlacolaaGreatDc
set_option linter.all false
namespace Go.Ev
open Go.Proofs
set_option maxRecDepth 100000
set_option maxHeartbeats 4000000
variable {K a4 a5 d0:Nat}{tm:Ax}{h:Ab}{X:Co}{St:Nat->Ab->Prop}{Q:EV->Ab->Prop}{v v1:EV}{L:List (List Nat)}{mt:Int->Int}{ds:List Nat}{G:Nat->Prop}{O:List H0}{disp:Nat->Option FT}{B:Cb}
section
section
variable {fl:Bool}{T:Kh}{call callV round:Ah}{fuel fn n:Nat}{Dx:Option Nat}{out:Nat->CD}{ret:CD}
end
section
variable{d g:Nat}{D c r:Ah}{xs:List EV}
noncomputable abbrev kQd(l:Nat):CD:=fun _ _ h _=>Vh l true .ready none h
noncomputable abbrev oQd(l:Nat):Nat->CD:=fun id _ _ h _=>Vh l false .done (some (.exit id)) h
noncomputable abbrev rQd(l:Nat):CD:=fun _ _ h _=>Vh l false .done (some .ret) h
@[reducible] noncomputable def lHr(C c r:Ah)(K l g n:Nat)(b:Code)(p:Nat):Code × Anx × CD:=Bqr true TT C c r K g n (some l) (oQd l) (rQd l) (pathOf p) .no b [] (kQd l)
@[reducible] noncomputable def Btc(C c r:Ah)(K l g n:Nat)(b:Code)(p:Nat)(X:CD):CD:=let _:=Bns;match lHr C c r K l g n b p with
 | (.loop x,env,_)=>Abj true TT C c r K g n (some l) (oQd l) (rQd l) x env X
 | _=>X
@[reducible] noncomputable def Bf4(C c r:Ah)(K l g n:Nat)(a b:Code)(H:Hk):CD:=let _:=Bns;Abj true TT C c r K g n (some l) (oQd l) (rQd l) a [] fun k tm h ds=>Fs l h fun h=>Qv true TT C c r K g n (some l) (oQd l) (rQd l) H b [] (kQd l) k tm h ds
theorem rrl {l n:Nat}{st:LoopState}{j:Option Code}{C:Ax}{ps:List Tmp}{a b:Code}{X:R}(M:Ae TT disp K d false=c)(P:Ae TT disp K d true=r)(e:c=D)(S:h.get l=some (.loop st j g n tm ps a b d0))(hs:Yx ps xs n tm=some C)
 (p:Nat) (E:Ah->Ah->Nat->CD) (h0:E c r 0=fun _ _ _ _=>none:=by rfl) (U:Asp (pathOf p) .no b=true:=by kernel_rfl) (F:Bsv (lHr D c r K l g n b p).1=true:=by kernel_rfl) (hp:∀m J tm h ds,Btc D c r K l g n b p (E c r m) J tm h ds=E c r (m+1) J tm h ds:=by intros;kernel_rfl)
 (V:Bf4 D c r K l g n a b (A0n (pathOf p) (E c r K) .no) (Bfc n ps xs (tmp tm)) C h []=X:=by kernel_rfl):Ae TT disp K (d+1) true l xs h=X:=by
 refine rr M P e S hs (Eq.trans ?_ V);have k:Qv true TT D c r K g n (some l) (oQd l) (rQd l) .no b [] (kQd l)=Qv true TT D c r K g n (some l) (oQd l) (rQd l) (A0n (pathOf p) (E c r K) .no) b [] (kQd l):=by
  refine Abl _ (pathOf p) .no b [] (kQd l) U ?_;rw[A3p];have hp:=fun m=>Avq (hp m)
  show Abj true TT D c r K g n (some l) (oQd l) (rQd l) (lHr D c r K l g n b p).1 (lHr D c r K l g n b p).2.1 (lHr D c r K l g n b p).2.2=E c r K;unfold Btc at hp;generalize lHr D c r K l g n b p=x at F hp⊢;obtain⟨W,env,k⟩:=x;cases W<;>first|exact Lp h0 hp K|cases F
 show Bf4 D c r K l g n a b .no (Bfc n ps xs (tmp tm)) C h []=_;unfold Bf4;rw[k]
end
end
section
noncomputable section
section
variable (c r:Ah)(K l:Nat)(k0:A0)(k1:A1)(k2:A2)(k3:A3)(k4:A4)(k5:A5)(k6:A6)(k7:A7)(k8:A8)(k9:A9)(k10:A10)(k11:A11)(k12:A12)(m0:B0)(m1:B1)(m2:B2)(m3:B3)(m4:B4)(m5:B5)(m6:B6)(m7:B7)(m8:B8)(m9:B9)(m10:B10)(m11:B11)(m12:B12)(base:Nat)(s:DX)(tm:Ax)(a b d e f g i j n o p q t u w x y z aa ab ad ae af ag ai aj an ao ap aq au aw ax ay az ba bb bd be bf bg bi bj bn bo bp bq bt bu bw bx bz da db dd de df dg di dj dn dp dq dt du dw dx dy dz ea eb ed ee ef eg ei ej en eo ep eq et eu ew ex ey ez fa fb fd fe ff fg fi fj fn fo fp fq ft fu fw fx fy fz ga gb gd ge gf gg gi gj gn go gp gq gt gu gw gx gy gz ia ib ie ig ii ij io ip iq it iu iw ix iy iz ja jb:EV)(h:Ab)(ds:List Nat)
def Mo(c:Ah)(r:Ah)(K:Nat)(tm:Ax)(a:EV)(h:Ab)(ds:List Nat):R:=
 stE 1 a (.bool true) h fun h=>
 E1 ds h fun h=>Ji TT [.c a 4] h
def Eo:Ru K (Ru r (Ru c R)):=
 Iz f fun g=>
 m5 ((tm.put 93 (some g)).put 31 (some g)) a b d e g h ds
def Us:R:=
 Oz 72 d h fun i=>
 Fm b h fun j=>
 An (c 13 [i,j] h) fun n h=>
 Fm b h fun o=>
 An (Fh K o h) fun p h=>
 An (K9 K p h) fun q h=>
 x2E q fun t u=>
 Aso 2 q fun w=>
 Avo (.cells [(.int .i64 0)] 3) h fun x h=>
 Avo (.cells [(.int .i64 0)] 3) h fun y h=>
 stE 1 x t h fun h=>
 stE 1 y u h fun h=>
 Fm b h fun z=>
 An (C0 K z h) fun aa h=>
 An (Tc K aa h) fun ab h=>
 Zk c TT 3 94 0 ab ((((((((((((((((tm.put 38 (some i)).put 39 (some j)).put 40 (some n)).put 42 (some o)).put 43 (some p)).put 44 (some q)).put 41 (some q)).put 45 (some t)).put 46 (some u)).put 47 (some w)).put 8 (some x)).put 9 (some y)).put 10 (some w)).put 48 (some z)).put 49 (some aa)).put 50 (some ab)) h ds (fun h ds=>
 Eo c r K m5 ((((((((((((((((tm.put 38 (some i)).put 39 (some j)).put 40 (some n)).put 42 (some o)).put 43 (some p)).put 44 (some q)).put 41 (some q)).put 45 (some t)).put 46 (some u)).put 47 (some w)).put 8 (some x)).put 9 (some y)).put 10 (some w)).put 48 (some z)).put 49 (some aa)).put 50 (some ab)) a b e f g h ds) (fun id h ds=>
 Bf (Nat.beq 2 id) (Eo c r K m5 ((((((((((((((((tm.put 38 (some i)).put 39 (some j)).put 40 (some n)).put 42 (some o)).put 43 (some p)).put 44 (some q)).put 41 (some q)).put 45 (some t)).put 46 (some u)).put 47 (some w)).put 8 (some x)).put 9 (some y)).put 10 (some w)).put 48 (some z)).put 49 (some aa)).put 50 (some ab)) a b e f g h ds) (Bf (Nat.beq 1 id) (Eo c r K m5 ((((((((((((((((tm.put 38 (some i)).put 39 (some j)).put 40 (some n)).put 42 (some o)).put 43 (some p)).put 44 (some q)).put 41 (some q)).put 45 (some t)).put 46 (some u)).put 47 (some w)).put 8 (some x)).put 9 (some y)).put 10 (some w)).put 48 (some z)).put 49 (some aa)).put 50 (some ab)) a b e f g h ds) (Bf (Nat.beq 0 id) (Mo c r K ((((((((((((((((tm.put 38 (some i)).put 39 (some j)).put 40 (some n)).put 42 (some o)).put 43 (some p)).put 44 (some q)).put 41 (some q)).put 45 (some t)).put 46 (some u)).put 47 (some w)).put 8 (some x)).put 9 (some y)).put 10 (some w)).put 48 (some z)).put 49 (some aa)).put 50 (some ab)) a h ds) (none)))) (fun h ds=>
 E1 ds h fun h=>Ji TT [.c a 4] h)
def T6:R:=
 Z8 72 d f fun g=>
 Oz 72 g h fun i=>
 nsE 72 (List.replicate 3 (.int .i64 0)++[.Ao]++List.replicate 4 (.int .i64 0)++List.replicate 64 (.int .u8 0)) 34 i h fun j h=>
 Alc 0 j fun n=>
 Fm n h fun o=>
 Bcl o (.int .i64 9) fun p=>
 ifE p
 (Eo c r K m5 ((((((tm.put 33 (some g)).put 34 (some i)).put 7 (some j)).put 35 (some n)).put 36 (some o)).put 37 (some p)) a b d e f h ds)
 (Us c r K m5 ((((((tm.put 33 (some g)).put 34 (some i)).put 7 (some j)).put 35 (some n)).put 36 (some o)).put 37 (some p)) a b j d e f h ds)
def Ep(c:Ah)(r:Ah)(K:Nat):Nat->B5
 | 0=>fun _ _ _ _ _ _ _ _=>none
 | m+1=>fun tm a b d e f h ds=>
  Axi f e fun g=>
  ifE g
  (T6 c r K (Ep c r K m) (tm.put 32 (some g)) a b d e f h ds)
  (Mo c r K (tm.put 32 (some g)) a h ds)
def Ui:R:=
 F3 a fun e=>
 Ep c r K K (((tm.put 29 (some a)).put 30 (some e)).put 31 (some (.int .i64 0))) b d a e (.int .i64 0) h ds
def F2:R:=
 pkO e f fun g=>
 ifE g
 (stE 1 b (.bool true) h fun h=>
 E1 ds h fun h=>Ji TT [.c b 4] h)
 (Ui c r K (tm.put 28 (some g)) a b d h ds)
def Ud:R:=
 Oz 6 b h fun e=>
 An (c 12 [e] h) fun f h=>
 nsE 1 [.E3] 26 f h fun g h=>
 Fm g h fun i=>
 Kl An2 (bin TT .eql 26) i .E3 fun j=>
 wfE j
 (F3 a fun n=>
 Azw n (.int .i64 40) fun o=>
 F2 c r K (((((((((tm.put 20 (some e)).put 21 (some f)).put 5 (some g)).put 22 (some i)).put 23 (some j)).put 24 (some j)).put 25 (some a)).put 26 (some n)).put 27 (some o)) a d g j o h ds)
 (F2 c r K (((((((((tm.put 20 (some e)).put 21 (some f)).put 5 (some g)).put 22 (some i)).put 23 (some j)).put 24 (some j)).put 25 (some tU)).put 26 (some tU)).put 27 (some tU)) a d g j tU h ds)
def O2:R:=
 (fun(tm:Ax) (ds:List Nat)=>
 Wy 23 a h fun d h=>
 Avo (.cells [(.bool false)] 4) h fun e h=>
 An (c 11 [] h) fun f h=>
 Arw f fun g=>
 ifE g
 (stE 1 e (.bool false) h fun h=>
 E1 ds h fun h=>Ji TT [.c e 4] h)
 (Ud c r K ((((tm.put 2 (some d)).put 4 (some e)).put 18 (some f)).put 19 (some g)) b d e h ds)) ((Tr.nil.put 0 (some a)).put 1 (some b)) []
def K8(c:Ah)(r:Ah)(K:Nat)(l:Nat)(k6:A6)(a:EV)(b:EV)(d:EV)(e:EV)(f:EV)(g:EV)(h:Ab):R:=
 Iz g fun i=>
 k6 a b d e f i h
def Hh:R:=(.mk:Sg 0x187654361000040316828980be [a,b,d,e,f,g,i,j] h [cl0 (Vh l false .done (some .ret)),cl6 (K8 c r K l k6)]).F
def Hf:R:=(.mk:Sg 0x120298654380024ba87658002825e60de02e2aa90be [a,b,d,e,f,g,i,j,n] h [cl8 (Hh c r K l k6)]).F
def Sn:R:=(.mk:Sg 0x1202ba5987691024dc7ba989102625e80de03e2a20fe3220140de762007e [a,b,d,e,f,g] h [c 19,cl9 (Hf c r K l k6)] [cu2 (fun f g=>A08 2 1 false 1 f g)]).F
def Cy(c:Ah)(r:Ah)(K:Nat)(l:Nat):Nat->A6
 | 0=>fun _ _ _ _ _ _ _=>none
 | m+1=>fun a b d e f g h=>
  cE Iq .lss 3 g (.int .i64 2)
  (Sn c r K l (Cy c r K l m) a b d e f g h)
  (Vh l true .ready none h)
def Rj:R:=
 oE 1 f h fun g=>
 oE 2 f h fun i=>
 Bv (Mv 1) [(.int .i64 0),(.int .i64 0)] [(0,g),(1,i)] fun j=>
 Cy c r K l K a b d e j (.int .i64 0) h
def Sl:R:=(.mk:Sg 0x176543510000403168288709e [a,b,d,e,f,g,i] h [cl0 (Vh l false .done (some .ret)),cl5 (Rj c r K l)]).F
def Rg:R:=(.mk:Sg 0x120201e00edcb7202302e01e00edc72000415e802e02e2d30425e5212e6213f3f917e023e05e818e421ae20ce2321737865802b21011730de300b0ee [a,b,d,e,f] h [Ey (Fh K),c 18,cl7 (Sl c r K l)] [] [List.replicate 32 (.int .u8 0)]).F
def Pq:R:=(.mk:Sg 0x17654351000031023801e604 [a,b,d,e,f] h [cl0 (Vh l true .ready none),cl5 (Rg c r K l)]).F
def U0:R:=
 nsE 6 [(.int .i64 0),(.int .i64 0),(.int .i64 0),(.int .i64 0),(.int .i64 0),(.int .i64 0)] 47 f h fun g h=>
 Fs l h fun h=>Pq c r K l a b d e g h
end
variable{d:Nat}(H:Bj disp)
include H
theorem Agm(hd:2<=d):S2 disp K d 3 O2:=fun _ _=>ld rfl rfl H (V1 (Ln H) hd<|V1 (Ab3 H) hd<|V1 (Py H) hd<|V1 (Aef H) hd<|rfl) 207 (fun c r m k tm h ds=>Ep c r K m tm (k 4) (k 5) (k 29) (k 30) (k 31) h ds)
theorem Ab7(hd:2<=d){l:Nat}(tm:Ax)(h:Ab)(m:EV)(k:EV){st:LoopState}{p:Option Code}(C:h.get l=some (.loop st p 3 94 tm [51,52] (E4 TT 3 0).2.2.1 (E4 TT 3 0).2.2.2 d0)):
 Ae TT disp K (d+1) true l [m,k] h=U0 (Ae TT disp K d false) (Ae TT disp K d true) K l (tmp tm 4) (tmp tm 5) (tmp tm 8) (tmp tm 9) k h:=rrl rfl rfl (V1 (Ln H) hd<|rfl) C rfl 48 (fun c r=>e6 (Cy c r K l) 4 5 8 9 74 75)
end
end
section
theorem Boo {e l0 ml:Nat}{es:List Me}(S:es.length<=256)(hb:∀i h,St i h->HB h)(row:∀i h,St i h->h.get ml=some (.cells (es.map Me.cells).flatten 47))(ext:∀i h h',St i h->Ext h h'->St i h')
 (Dx:∀(i:Nat) x h,es[i]? = some x->St i h->Ok (Ae TT disp K e true l0 [I i,.agg x.cells] h) fun v h'=>v=.bool true/\St (i+1) h'):∀(m i:Nat) (h:Ab),es.length-i<m->i<=es.length->St i h ->
 Ok (Bq (Ae TT disp K e false) (Ae TT disp K e true) K m (.yld l0) (.slice ml 0 es.length es.length false) (I es.length) (I i) h) fun _ h'=>St es.length h':=by
 intro m;induction m with
 | zero=>intro i h hm;omega
 | succ m F=>
  intro i h hm U s;rw[Bq];simp only[I,Ac,Aa];by_cases k:i<es.length
  ·have:decide ((i:Int)<(es.length:Int))=true:=by simp;omega
   simp only[this,Aa,Eu];rw[Lv k,bJ,Bp (row _ _ s) rfl (Avh es k)];have E:=aC k;generalize es[i]=z at E⊢
   try simp only[Aa]
   refine Ok.mk rfl rfl fun C J e3 _=>?_
   rw[Bp e3 rfl (Ai (n:=6) rfl)];have M:Xq (Ae TT disp K e false) (Ae TT disp K e true) (.yld l0) [.int .i64 (i:Int),.agg z.cells] C=Ae TT disp K e true l0 [I i,.agg z.cells] C:=rfl;rw[M];refine(Dx i z C E (ext _ _ _ s J)).An ?_;rintro _ h4 ⟨rfl,P⟩;simp only[Aa,Et,Ac];rw[Cj,show((i:Nat):Int)+1=((i+1:Nat):Int) by omega];exact F (i+1) h4 (by omega) (by omega) P
  ·have:decide ((i:Int)<(es.length:Int))=false:=by simp;omega
   obtain rfl:i=es.length:=by omega
   simp only[this,Aa];exact .ret s
theorem ps3:(E4 TT 3 0).2.1 = [51,52]:=by kernel_rfl
structure Bpu(hs h:Ab)(l0 d0:Nat)(tm:Ax)(B:Cb)(X:Co)(L:List (List Nat))(mt:Int->Int)(G:Nat->Prop):Prop where
 ex:∃Y,Cz h B Y G/\Jc Y L mt/\Rd' X Y
 k:Kf (fun j=>G j/\¬j=l0) hs h
 lp:h.get l0=some (Au TT 3 94 0 tm .ready none d0)
section
variable (A:Bj disp)(hK:10000<K){hs:Ab}{l0:Nat}{a8 a9:Nat}(hbs:HB hs)
include A hK
theorem Bjp {m:Nat}{Y:Co}(C:Cz h B Y G){z:Int}{v4:EV}{j:Nat}(hj:j<2){a b:Int}(ez:(if j=0 then a else b)=z)(V:Rng z)(g5:h.get a5=some (.cells [.ptr B.c 0] 26))(F:h.get a8=some (.cells [I Y.S.a] 3))(J:h.get a9=some (.cells [I Y.S.b] 3))(G5:G a5)(W:G a8)(Z:G a9)(hz:z=Y.S.a\/z=Y.S.b\/Y.closed z=true){d:Nat}(hd:8<=d)
 (nx:∀h',Ej h h' B Y G Y->Ok (Cy (Ae TT disp K d false) (Ae TT disp K d true) K l0 m v4 (.ptr a5 0) (.ptr a8 0) (.ptr a9 0) (.agg [I a,I b]) (I (j+1:Nat)) h') Q) :
 Ok (Cy (Ae TT disp K d false) (Ae TT disp K d true) K l0 (m+1) v4 (.ptr a5 0) (.ptr a8 0) (.ptr a9 0) (.agg [I a,I b]) (I j) h) Q:=by
 have al:Cg (.tuple []) false=false/\Cg (.tuple []) true=false:=⟨rfl,rfl⟩;rw[Cy];simp only[I,Ac,Aa];have:decide ((j:Int)<2)=true:=by simp;omega
 simp only[this,Aa,Sn];have U:=Bte (a:=I a) (b:=I b) hj;simp only[I]at U;rw[U];have e1:(if j=0 then EV.int .i64 a else EV.int .i64 b)=I z:=by rw[<-ez];split<;>rfl
 rw[e1,Al g5 rfl (v:=.ptr B.c 0) rfl];refine(Aa0 A hK C (d:=d) hd (z:=z) V).An ?_;rintro _ h2 ⟨rfl,q2⟩;have c2:=C.rd q2;have F:=c2.k.at C.hb F W;have J:=c2.k.at C.hb J Z;have E:∀h',Ej h h' B Y G Y->Ok (K8 (Ae TT disp K d false) (Ae TT disp K d true) K l0 (Cy (Ae TT disp K d false) (Ae TT disp K d true) K l0 m) v4 (.ptr a5 0) (.ptr a8 0) (.ptr a9 0) (.agg [I a,I b]) (I j) h') Q:=fun h' c=>by
  simp only[K8,I,Ac,Aa];rw[Cj,show((j:Nat):Int)+1=((j+1:Nat):Int) by omega];exact nx h' c
 simp only[I]at E;cases hc:Y.closed z with
 | true=>
  simp only[Aa,Ac,Hf,Hh];exact E h2 c2
 | false=>
  simp only[Aa,Ac,cu];rw[Al F rfl (v:=I Y.S.a) rfl];simp only[I,Ac];by_cases M:z=Y.S.a
  ·simp only[M,aD,aA,Aa,Ac,Hf,Hh]
   exact E h2 c2
  ·simp only[M,aN,aB,Aa,Ac,Hf]
   rw[Al J rfl (v:=I Y.S.b) rfl];have P:z=Y.S.b:=by
    rcases hz with y|y|y
    ·exact absurd y M
    ·exact y
    ·rw[hc]at y;cases y
   simp only[I,Ac,P,aD,aA,Aa,Hh];exact E h2 c2
theorem Bpf(t4:tmp tm 4=.ptr a4 0)(t5:tmp tm 5=.ptr a5 0)(t8:tmp tm 8=.ptr a8 0)(t9:tmp tm 9=.ptr a9 0)(hbs:HB hs)(G0:G l0)(G5:G a5)(G8:G a8)(G9:G a9)(gl:hs.get l0=some (Au TT 3 94 0 tm .ready none d0))(g5:hs.get a5=some (.cells [.ptr B.c 0] 26))(g8:hs.get a8=some (.cells [I X.S.a] 3))(g9:hs.get a9=some (.cells [I X.S.b] 3))
 {e:Nat} (he:22<=e) {i:Nat} {x:Me} (hx:X.es[i]? = some x) (S:Bpu hs h l0 d0 tm B X L mt G) :
 Ok (Ae TT disp K (e+1) true l0 [I i,.agg x.cells] h) fun v h'=>v=.bool true/\Bpu hs h' l0 d0 tm B X L mt G:=by
 obtain⟨Y,C,J,rd⟩:=S.ex;have n5:¬a5=l0:=Bb g5 gl (by simp[Au]);have n8:¬a8=l0:=Bb g8 gl (by simp[Au]);have n9:¬a9=l0:=Bb g9 gl (by simp[Au]);have V:=S.lp;unfold Au at V;rw[ps3]at V;rw[Ab7 A (by omega) tm h (I i) _ V,t4,t5,t8,t9];simp only[U0,Aa];rw[An9 (h:=h.new (.cells [EV.int .i64 0,.int .i64 0,.int .i64 0,.int .i64 0,.int .i64 0,.int .i64 0] 47)) (i:=h.next) (o:=0) (n:=6) (v:=.agg x.cells) (l:=[EV.int .i64 0,.int .i64 0,.int .i64 0,.int .i64 0,.int .i64 0,.int .i64 0]) (t:=47) (l':=x.cells) (Ad _ _) rfl rfl (Bm rfl)];obtain⟨E,e_,x3,e3,_⟩:=nP h (.cells [EV.int .i64 0,.int .i64 0,.int .i64 0,.int .i64 0,.int .i64 0,.int .i64 0] 47) (.cells x.cells 47);rw[e_];have W:=x3.hb C.hb;have q0:=x3.at C.hb S.lp;have l3:=W _ _ q0;rw[Abi q0];have eB:=C.hb _ _ S.lp;have F:Cz (E.put l0 (Au TT 3 94 0 tm .busy none d0)) B Y (Bg G h E):=(C.ext x3).Ag7 ((Av.refl (S:=fun j=>j=l0) E).Ar (.inl rfl) l3 _) (fun j hj _=>hj▸.inl G0) (W.put l3 _);have k4:Kf (fun j=>G j/\¬j=l0) hs (E.put l0 (Au TT 3 94 0 tm .busy none d0)):=(S.k.trans (Ext.kf x3)).Ar (.inl fun y=>y.2 rfl) l3 _;have r0:(E.put l0 (Au TT 3 94 0 tm .busy none d0)).get l0=some (Au TT 3 94 0 tm .busy none d0):=Af _ _ _;have re:(E.put l0 (Au TT 3 94 0 tm .busy none d0)).get h.next=some (.cells x.cells 47):=by rw[Ag _ (by omega)];exact e3
 have fe:Bg G h E h.next:=.inr ⟨aE _,W _ _ e3⟩
 generalize E.put l0 (Au TT 3 94 0 tm .busy none d0)=h4 at F k4 r0 re⊢;have fin:∀(h5:Ab) (Z:Co),Ej h4 h5 B Y (Bg G h E) Z->Jc Z L mt->Rd' X Z->Ok (Vh l0 true .ready none h5) fun v h'=>v=.bool true/\Bpu hs h' l0 d0 tm B X L mt G:=fun h5 Z P j5 r5=>by
  have a3:=P.k.at F.hb r0 (.inl G0);have l5:=P.hb _ _ a3;rw[Tm a3];have k5:Kf (fun j=>G j/\¬j=l0) hs h5:=k4.trans (P.k.less fun j hj=>.inl hj.1);exact .ret ⟨rfl,⟨Z,(P.C.Ag7 ((Av.refl (S:=fun j=>j=l0) h5).Ar (.inl rfl) l5 _) (fun j hj _=>hj▸.inl G0) (P.hb.put l5 _)).less fun j hj=>.inl hj,j5,r5⟩,k5.Ar (.inl fun y=>y.2 rfl) l5 _,Af _ _ _⟩
 have eG:Cg (.tuple []) false=false/\Cg (.tuple []) true=false:=⟨rfl,rfl⟩;simp only[Pq,Aa];rw[Al re rfl (v:=I x.state) rfl];simp only[I,Ac];by_cases h1:x.state=1
 case neg=>
  simp only[h1,aN,aB,Aa];exact fin h4 Y (Ej.refl F) J rd
 simp only[h1,aD,aA,Aa,Rg];have a7:Y.es[i]? = some x:=by rw[rd.es];exact hx
 obtain⟨bs,hL,lv⟩:=J.c.at a7 h1;have bk:bs.length=32:=by
  obtain⟨e,we,eb,_⟩:=lv.rc.ex;rw[<-eb];exact we.1
 have rg:=Ba9 C.sm (Bfz C.map.ok (i:Int));rw[Ait a7]at rg;have b5:=Kf.at k4 hbs g5 ⟨G5,n5⟩;have l5:=F.hb _ _ b5;have l6:=F.hb _ _ re;rw[Ku l5,Al b5 rfl (v:=.ptr B.c 0) rfl];simp only[Aa,Aw];rw[Aqs (v:=.ptr B.m 0) (by simp only[Fh,Aa];rw[F.lift.ldM])];rw[Ku l6,Bp re rfl (Ai (n:=6) rfl)];simp only[Aa,Aw];have ck:=A8e A hK (d:=e) (by omega) F.lift.M F.lift.hb rg.1 rg.2;have mk:=Bet Y.S x;rw[J.c.check lv]at ck mk;obtain⟨jt,rt⟩:=J.Bv1;refine Ok.bC (S:=fun j=>¬B.fr (Bg G h E) j) ck (fun _ _ p=>p.2.2.2.1) ?_;rintro _ eN h5 s' ⟨rfl,bw,M',_,cy⟩ sm ch cz;have P:=F.Kk (M'.same sm) ch (sm.hb cy) mk;simp only at P bw;have U:=rd.trans rt;generalize ({ Y with S:=Y.S.D9.D9 }:Co)=Z at P jt rt U;have ul:(Bh bs).length=32:=by rw[Be,bk]
 simp only[Aa];rw[Lf (by rcases cz with rfl|⟨w,rfl,_⟩<;>kernel_rfl)];refine Ok.st (Bh bs) (Ad _ _) rfl (by show Gk (Bh bs)=32;rw[Bc,ul]) (Bm (by rw[bQ];exact ul.symm)) ?_;obtain⟨h6,e_,x6,fc,n6⟩:=nP h5 (.cells (List.replicate 32 (EV.int .u8 0)) 49) (.cells (Bh bs) 49);rw[e_];have c6:=P.trans (P.C.toE x6);have k6:=k4.trans (c6.k.less (F':=fun j=>G j/\¬j=l0) fun j hj=>.inl hj.1);have b6:=Kf.at k6 hbs g5 ⟨G5,n5⟩;have a0:=Kf.at k6 hbs g8 ⟨G8,n8⟩;have a1:=Kf.at k6 hbs g9 ⟨G9,n9⟩;rw[<-U.o.1]at a0;rw[<-U.o.2]at a1;have b7:=c6.k.at F.hb re fe;simp only[I,Ac,aD,aA,Aa,Sl,Rj];rw[Al b7 rfl (v:=I x.Aj) rfl,Al b7 rfl (v:=I x.Ba) rfl];rw[show ∀k:EV->R,Bv (Mv 1) [EV.int .i64 0,.int .i64 0] [(0,I x.Aj),(1,I x.Ba)] k=k (.agg [I x.Aj,I x.Ba])from fun k=>Ay rfl];obtain⟨K',rfl⟩:∃k,K=k+3:=⟨K-3,by omega⟩;have wh:(x.Aj=Z.S.a\/x.Aj=Z.S.b\/Z.closed x.Aj=true)/\(x.Ba=Z.S.a\/x.Ba=Z.S.b\/Z.closed x.Ba=true):=by
  rw[rt.o.1,rt.o.2,rt.cl,rt.cl];rcases lv.wh with y|y
  ·exact⟨.inl y.1,.inr (.inl y.2)⟩
  ·exact⟨.inr (.inr y.1),.inr (.inr y.2)⟩
 refine Bjp (d:=e) A hK c6.C (j:=0) (by omega) (by rw[aG rfl]) rg.1 b6 a0 a1 (.inl G5) (.inl G8) (.inl G9) wh.1 (by omega) fun h7 c7=>?_
 refine Bjp (d:=e) A hK c7.C (j:=1) (by omega) (by rw[aF (by omega)]) rg.2 (c7.k.at c6.hb b6 (.inl G5)) (c7.k.at c6.hb a0 (.inl G8)) (c7.k.at c6.hb a1 (.inl G9)) (.inl G5) (.inl G8) (.inl G9) wh.2 (by omega) fun h8 c8=>?_
 rw[Cy];simp only[I,Ac,Aa];rw[show decide (((1+1:Nat):Int)<2)=false from rfl];simp only[Aa];exact fin h8 Z (c6.trans (c7.trans c8)) jt U
end
end
theorem Bpt{N:Nat}{b:Nat}{L:List H0}(R0:So h N v b L){i:Nat}(m:i<L.length){k:EV->EV->Ab->R}(C:∀p w h2,Ext h h2->h2.get h.next=some (.cells L[i].cells 34)->h2.next=h.next+1->Ok (k p w h2) Q):
 Ok (Z8 72 v (.int .i64 (i:Int)) fun p=>Oz 72 p h fun w=>stE 72 (.ptr h.next 0) w (h.new (.cells (List.replicate 3 (.int .i64 0)++[.Ao]++List.replicate 4 (.int .i64 0)++List.replicate 64 (.int .u8 0)) 34)) (k p w)) Q:=by
 rcases R0.row with⟨rfl,_⟩|⟨_,off,E,op,rfl,y⟩
 ·exact absurd m (br _)
 ·rw[Lv m]
  have:=Au8 (k:=k (.ptr b (off+i*72)) (.agg L[i].cells)) R0 m (C _ _);rw[R0.at m]at this;rw[y i m];exact this
structure TmC(a4 a5:Nat)(tm:Ax):Prop where
 t4:tmp tm 4=.ptr a4 0
 t5:tmp tm 5=.ptr a5 0
theorem TmC.put(t:TmC a4 a5 tm){n:Nat}(h4:n≠4)(k:n≠5):TmC a4 a5 (tm.put n (some v)):=
 ⟨by rw[Gz,aF (by omega)];exact t.t4,by rw[Gz,aF (by omega)];exact t.t5⟩
structure Cq(g:Gm)(h0 h:Ab)(N:Nat)(B:Cb)(X:Co)(L:List (List Nat))(mt:Int->Int)(i:Nat)(a4 a5:Nat)(ds:List Nat)(G:Nat->Prop):Prop where
 C:Cz h B X G
 w:LwI g X L mt i
 lN:∀j,j<N->G j
 nn:N<=h.next
 k:∀j,j<N->h.get j=h0.get j
 g4:h.get a4=some (.cells [.bool false] 4)
 g5:h.get a5=some (.cells [.ptr B.c 0] 26)
 G4:G a4
 G5:G a5
 n4:N<=a4
 dd:∀d∈ds,G d/\N<=d/\h.get d=some (.deferred true)
 nd:ds.Nodup
section
variable {g:Gm}{h0 h':Ab}{N:Nat}{Y:Co}{L':List (List Nat)}{mt':Int->Int}{i i':Nat}
theorem Cq.to(z:Cq g h0 h N B X L mt i a4 a5 ds G)(c:Ej h h' B X G Y)(w:LwI g Y L' mt' i'):Cq g h0 h' N B Y L' mt' i' a4 a5 ds G:=
 ⟨c.C,w,z.lN,bN z.nn c.k.next,fun j hj=>(c.k.get j (by have:=z.nn;omega) fun y=>y (z.lN j hj)).trans (z.k j hj),c.k.at z.C.hb z.g4 z.G4,c.k.at z.C.hb z.g5 z.G5,z.G4,z.G5,z.n4,fun d hd=>⟨(z.dd d hd).1,(z.dd d hd).2.1,c.k.at z.C.hb (z.dd d hd).2.2 (z.dd d hd).1⟩,z.nd⟩
theorem Cq.ext(z:Cq g h0 h N B X L mt i a4 a5 ds G)(x:Ext h h'):Cq g h0 h' N B X L mt i a4 a5 ds (Bg G h h'):=
 ⟨z.C.ext x,z.w,fun j hj=>.inl (z.lN j hj),bN z.nn x.next,fun j hj=>(x.get j (by have:=z.nn;omega) id).trans (z.k j hj),x.at z.C.hb z.g4,x.at z.C.hb z.g5,.inl z.G4,.inl z.G5,z.n4,fun d hd=>⟨.inl (z.dd d hd).1,(z.dd d hd).2.1,x.at z.C.hb (z.dd d hd).2.2⟩,z.nd⟩
theorem Cq.w'(z:Cq g h0 h N B X L mt i a4 a5 ds G)(w:LwI g X L mt i'):Cq g h0 h N B X L mt i' a4 a5 ds G:=
 ⟨z.C,w,z.lN,z.nn,z.k,z.g4,z.g5,z.G4,z.G5,z.n4,z.dd,z.nd⟩
theorem A8x(hb:HB h)(g4:h.get a4=some (.cells [.bool false] 4))(n4:N<=a4)(nn:N<=h.next)(k:∀j,j<N->h.get j=h0.get j)(dd:∀d∈ds,N<=d/\h.get d=some (.deferred true))(nd:ds.Nodup)(E:∀h',(∀j,j<N->h'.get j=h0.get j)->Q (.bool true) h'):Ok (stE 1 (.ptr a4 0) (.bool true) h fun h=>E1 ds h fun h=>Ji TT [.c (.ptr a4 0) 4] h) Q:=by
 have F:=hb _ _ g4;refine Ok.st1 g4 rfl rfl (by show 0<1;decide) ?_;have m:HB (h.put a4 (.cells ([EV.bool false].set 0 (.bool true)) 4)):=hb.put F _;have ne:∀d∈ds,d≠a4:=fun d hd=>Bb (dd d hd).2 g4 (by intro y;cases y)
 refine Ok.unwind nd (fun d hd=>by rw[Ag _ (cV (ne d hd))];exact(dd d hd).2) m fun J C _=>?_
 have M:J.get a4=some (.cells [.bool true] 4):=Av.at C m (Af _ _ _) fun y=>ne a4 y rfl
 rw[Ai9 M];refine .ret (E _ fun j hj=>?_);rw[C.get j (by rw[Ab.Si];omega) fun y=>by have:=(dd j y).1;omega,Ag _ (by omega)];exact k j hj
theorem Bug(z:Cq g h0 h N B X L mt i a4 a5 ds G)(m:∀h',(∀j,j<N->h'.get j=h0.get j)->Q (.bool true) h'):Ok (stE 1 (.ptr a4 0) (.bool true) h fun h=>E1 ds h fun h=>Ji TT [.c (.ptr a4 0) 4] h) Q:=
 A8x z.C.hb z.g4 z.n4 z.nn z.k (fun d hd=>(z.dd d hd).2) z.nd m
end
section
variable (A:Bj disp)(hK:3000000<K){g:Gm}{h0:Ab}{N:Nat}
include A hK
theorem Boe{i:Nat}(z:Cq g h0 h N B X L mt i a4 a5 ds G)(T:TmC a4 a5 tm){a8 a9 c:Nat}(t8:tmp tm 8=.ptr a8 0)(t9:tmp tm 9=.ptr a9 0)(g8:h.get a8=some (.cells [I X.S.a] 3))(g9:h.get a9=some (.cells [I X.S.b] 3))(G8:G a8)(G9:G a9)
 (gc:h.get c=some (.cells [.slice B.ml 0 X.es.length X.es.length false] 113)) {d:Nat} (hd:25<=d) {k ret:Ab->List Nat->R} {ex:Nat->Ab->List Nat->R} (nx:∀h' Y P G',Cq g h0 h' N B Y L mt i a4 a5 P G'->Ok (k h' P) Q) :
 Ok (Zk (Ae TT disp K d false) TT 3 94 0 (.func 104 [] [.ptr c 0]) tm h ds k ex ret) Q:=by
 obtain⟨e,rfl⟩:∃k,d=k+2:=⟨d-2,by omega⟩;refine Ok.range ?_;have M:Ext h (Ca TT 3 94 0 tm h):=Jj;have k0:(Ca TT 3 94 0 tm h).get h.next=some (.deferred true):=Le
 have k1:(Ca TT 3 94 0 tm h).get (h.next+1)=some (Au TT 3 94 0 tm .ready none h.next):=J1;generalize Ca TT 3 94 0 tm h=F at M k0 k1⊢;have m:=z.ext M;have hb:=z.C.hb;have E:=m.C.hb;have l1:=E _ _ k1;have el:=z.C.A9v;rw[Gs A (cQ _)];simp only[Fq,dr];rw[Al (M.at hb gc) rfl (v:=.slice B.ml 0 X.es.length X.es.length false) rfl];simp only[Aa];have W:Bg G h F (h.next+1):=.inr ⟨by omega,l1⟩;have Z:Bg G h F h.next:=.inr ⟨by omega,E _ _ k0⟩
 have S0:Bpu F F (h.next+1) h.next tm B X L mt (Bg G h F):=⟨⟨X,m.C,z.w.j,Rd'.refl X⟩,Av.refl _,k1⟩
 refine(Boo (K:=K) (disp:=disp) (e:=e+1) (l0:=h.next+1) (ml:=B.ml) (es:=X.es) el (St:=fun _ h'=>Bpu F h' (h.next+1) h.next tm B X L mt (Bg G h F)) (fun _ h' s=>by obtain⟨Y,C,_⟩:=s.ex;exact C.hb) (fun _ h' s=>by
  obtain⟨Y,C,_,r⟩:=s.ex;have:=C.map.row
  rwa [r.es]at this) (fun _ h1 h2 s x=>by
  obtain⟨Y,C,J,r⟩:=s.ex;exact⟨⟨Y,(C.toE x).C,J,r⟩,s.k.trans (Ext.kf x),x.at C.hb s.lp⟩)
  (fun n x h1 hx s=>Bpf (K:=K) A (by omega) T.t4 T.t5 t8 t9 E W m.G5 (.inl G8) (.inl G9) k1 m.g5 (M.at hb g8) (M.at hb g9) (by omega) hx s) K 0 F (by omega) (cQ _) S0).mono ?_
 rintro _ h4 s;obtain⟨Y,C,J,r⟩:=s.ex;refine .inl ⟨s.lp,?_⟩;have U:=C.hb _ _ s.lp;have V:∀j o,F.get j=some o->(∀p q,o≠Au TT 3 94 0 tm p q h.next)->j≠h.next+1:=fun j o go no y=>by
  subst y;rw[k1]at go;injection go with go;exact no _ _ go.symm
 have k4:Kf (fun j=>Bg G h F j/\¬j=h.next+1) F (h4.put (h.next+1) (Au TT 3 94 0 tm .exhausted none h.next)):=s.k.Ar (.inl fun y=>y.2 rfl) U _;have C5:Cz (h4.put (h.next+1) (Au TT 3 94 0 tm .exhausted none h.next)) B Y (Bg G h F):=C.Ag7 ((Av.refl (S:=fun j=>j=h.next+1) h4).Ar (.inl rfl) U _) (fun j hj _=>hj▸W) (C.hb.put U _);have n3:=z.nn;have bk:=M.next
 refine nx _ Y _ (Bg G h F) ⟨C5,⟨J,r.g.trans z.w.gg,by rw[r.nm.1];exact z.w.gen,by rw[r.nm.2.2.1];exact z.w.nx,by rw[r.nm.2.1];exact z.w.ep⟩,m.lN,bN m.nn k4.next,fun j hj=>?_,?_,?_,m.G4,m.G5,z.n4,?_,?_⟩
 ·rw[k4.get j (by omega) fun y=>y ⟨m.lN j hj,by omega⟩];exact m.k j hj
 ·exact Kf.at k4 E m.g4 ⟨m.G4,V _ _ m.g4 (by intro p q;simp[Au])⟩
 ·exact Kf.at k4 E m.g5 ⟨m.G5,V _ _ m.g5 (by intro p q;simp[Au])⟩
 ·intro d hd
  rcases bU.1 hd with rfl|hd
  ·exact⟨Z,by omega,Kf.at k4 E k0 ⟨Z,by omega⟩⟩
  ·obtain⟨a,b,c⟩:=m.dd d hd
   exact⟨a,b,Kf.at k4 E c ⟨a,V _ _ c (by intro p q;simp[Au])⟩⟩
 ·refine cB.2 ⟨fun y=>?_,z.nd⟩
  have:=hb _ _ (z.dd _ y).2.2;omega
variable {d:Nat}(hd:31<=d){b:Nat}(R0:So h0 N v1 b O)(hL:O.length<=60)
include hd R0 hL
theorem Br2(kk:∀h',(∀j,j<N->h'.get j=h0.get j)->Q (.bool true) h'):∀(f i:Nat) (h:Ab) (X:Co) (L:List (List Nat)) (mt:Int->Int) (tm:Ax) (ds:List Nat) (G:Nat->Prop),O.length-i<f->i<=O.length->TmC a4 a5 tm->Cq g h0 h N B X L mt i a4 a5 ds G ->
 Ok (Ep (Ae TT disp K d false) (Ae TT disp K d true) K f tm (.ptr a4 0) (.ptr a5 0) v1 (I O.length) (I i) h ds) Q:=by
 intro f;induction f with
 | zero=>intro i h X L mt tm ds G hf;omega
 | succ f ih=>
  intro i h X L mt tm ds G hf hi T z;rw[Ep];have wi:∀k:EV->R,Kl Iq (bin TT .lss 3) (I i) (I O.length) k=k (.bool (decide ((i:Int)<(O.length:Int)))):=fun k=>by simp only[I,Ac]
  dsimp only;simp only[Aa];rw[wi];by_cases V:i<O.length
  case neg=>
   have:decide ((i:Int)<(O.length:Int))=false:=by simp;omega
   simp only[this,Aa,Mo];exact Bug z kk
  have:decide ((i:Int)<(O.length:Int))=true:=by simp;omega
  have Rh:=R0.frame (h':=h) z.k;have W:∀h' Y L' mt' P F Z,TmC a4 a5 P->Cq g h0 h' N B Y L' mt' (i+1) a4 a5 F Z->Ok (Eo (Ae TT disp K d false) (Ae TT disp K d true) K (Ep (Ae TT disp K d false) (Ae TT disp K d true) K f) P (.ptr a4 0) (.ptr a5 0) v1 (I O.length) (I i) h' F) Q:=fun h' Y L' mt' P F Z T' z'=>by
   simp only[Eo,I,Ac,Aa];rw[Cj,show((i:Nat):Int)+1=((i+1:Nat):Int) by omega];refine ih (i+1) h' Y L' mt' _ F Z (by omega) (by omega) ?_ z'
   repeat (first|exact T'|refine TmC.put ?_ (by decide) (by decide))
  simp only[this,Aa,T6];simp only[I];refine Bpt Rh V fun p2 w2 h2 x2 g2 n2=>?_
  obtain⟨oa,ob,oc,od⟩:=Rh.Qu _ (av V);generalize O[i]=o at oa ob oc od g2;have ol:=H0.len oa.ev;have J:=z.ext x2;have o2:o.At h2:=⟨oa.row.frame fun y=>x2.get _ (by have:=z.nn;have:=ob y;omega) id,oa.ev,oa.pl⟩;rw[(Aaa g2 _).1];simp only[I,Ac];by_cases k9:o.kind=9
  ·simp only[k9,aB,Aa]
   refine W h2 X L mt _ ds _ ?_ (J.w' J.w.more)
   repeat (first|exact T|refine TmC.put ?_ (by decide) (by decide))
  simp only[k9,aA,Aa,Us];rw[Bp g2 rfl (Ai ol),Al J.g5 rfl (v:=.ptr B.c 0) rfl];have gen:=z.w.gen;have nx:=z.w.nx;refine(Bg4 (K:=K) A hK J.C J.w.j (by omega) (by omega) o2 oc (fun y=>J.lN _ (ob y)) od k9 (d:=d) hd).An ?_;rintro _ E ⟨e,Y,L',mt',rfl,c3,j3,b6,_⟩;have z3:=J.to c3 (J.w.step j3 b6);have e1:Fh K (.ptr B.c 0) E=some (.ptr B.m 0,E):=by simp only[Fh,Aa];rw[z3.C.ldM]
  try simp only[Aa]
  rw[Al z3.g5 rfl (v:=.ptr B.c 0) rfl,e1,As,A1c z3.C.M,As];simp only[Aa];have x4:Ext E ((E.new (.cells [.int .i64 0] 3)).new (.cells [.int .i64 0] 3)):=(Av.new _ _).Ds _;have g8:((E.new (.cells [.int .i64 0] 3)).new (.cells [.int .i64 0] 3)).get E.next=some (.cells [.int .i64 0] 3):=by rw[Az _ (aL _)];exact Ad _ _
  have g9:((E.new (.cells [.int .i64 0] 3)).new (.cells [.int .i64 0] 3)).get (E.next+1)=some (.cells [.int .i64 0] 3):=Ad _ _;have n4:((E.new (.cells [.int .i64 0] 3)).new (.cells [.int .i64 0] 3)).next=E.next+2:=rfl
  rw[show(E.new (.cells [.int .i64 0] 3)).next=E.next+1 from rfl];generalize (E.new (.cells [.int .i64 0] 3)).new (.cells [.int .i64 0] 3)=h4 at x4 g8 g9 n4⊢;refine Ok.st1 g8 rfl rfl (by show 0<1;decide) ?_;have x5:Ext E (h4.put E.next (.cells ([EV.int .i64 0].set 0 (I Y.S.a)) 3)):=x4.Ar (.inr (aE _)) (by omega) _;have ah:(h4.put E.next (.cells ([EV.int .i64 0].set 0 (I Y.S.a)) 3)).get E.next=some (.cells [I Y.S.a] 3):=Af _ _ _
  have al:(h4.put E.next (.cells ([EV.int .i64 0].set 0 (I Y.S.a)) 3)).get (E.next+1)=some (.cells [.int .i64 0] 3):=by rw[Ag _ (by omega)];exact g9
  have n5:(h4.put E.next (.cells ([EV.int .i64 0].set 0 (I Y.S.a)) 3)).next=E.next+2:=n4
  generalize h4.put E.next (.cells ([EV.int .i64 0].set 0 (I Y.S.a)) 3)=h5 at x5 ah al n5⊢
  refine Ok.st1 al rfl rfl (by show 0<1;decide) ?_;have x6:Ext E (h5.put (E.next+1) (.cells ([EV.int .i64 0].set 0 (I Y.S.b)) 3)):=x5.Ar (.inr (by omega)) (by omega) _;have a1:(h5.put (E.next+1) (.cells ([EV.int .i64 0].set 0 (I Y.S.b)) 3)).get E.next=some (.cells [I Y.S.a] 3):=by rw[Ag _ (by omega)];exact ah
  have a2:(h5.put (E.next+1) (.cells ([EV.int .i64 0].set 0 (I Y.S.b)) 3)).get (E.next+1)=some (.cells [I Y.S.b] 3):=Af _ _ _;have n6:(h5.put (E.next+1) (.cells ([EV.int .i64 0].set 0 (I Y.S.b)) 3)).next=E.next+2:=n5
  generalize h5.put (E.next+1) (.cells ([EV.int .i64 0].set 0 (I Y.S.b)) 3)=h6 at x6 a1 a2 n6⊢;have U:=z3.ext x6;have a6:=U.C.hb;rw[Al U.g5 rfl (v:=.ptr B.c 0) rfl];simp only[C0,Aa];rw[U.C.ldB];simp only[Tc,Aa,Ei];rw[Al U.C.map.map rfl (v:=.slice B.ml 0 Y.S.g.B.toNat Y.S.g.B.toNat false) rfl,<-U.C.map.len];simp only[Aa];obtain⟨h7,e_,x7,q7,n7⟩:=nW h6 (.cells [.slice B.ml 0 Y.es.length Y.es.length false] 113);rw[e_];have z7:=U.ext x7;have fr:∀j,E.next<=j->j<h6.next->Bg (Bg (Bg G h h2) E h6) h6 h7 j:=fun j a b=>.inl (.inr ⟨a,b⟩)
  refine Boe (K:=K) A hK z7 (a8:=E.next) (a9:=E.next+1) (c:=h6.next) ?_ ?_ ?_ (x7.at a6 a1) (x7.at a6 a2) (fr _ (by omega) (by omega)) (fr _ (by omega) (by omega)) q7 (d:=d) (by omega) (fun h' Y' F Z z'=>W h' Y' L' mt' _ F Z ?_ z')
  ·repeat (first|exact T|refine TmC.put ?_ (by decide) (by decide))
  ·simp only[Gz,reduceIte,Nat.reduceEqDiff]
  ·simp only[Gz,reduceIte,Nat.reduceEqDiff]
  ·repeat (first|exact T|refine TmC.put ?_ (by decide) (by decide))
end
theorem Bfu(A:Bj disp)(hK:3000000<K){d:Nat}(hd:31<=d)(W:∀h,Ae TT disp K d false 11 [] h=some (.bool true,h))(g:Gm)(hb:HB h){b:Nat}(R0:So h h.next v1 b O):
 Ok (O2 (Ae TT disp K d false) (Ae TT disp K d true) K (gV g) v1 h) fun v h'=>v=.bool true/\∀i,i<h.next->h'.get i=h.get i:=by
 simp only[O2,gV,Aa];have x1:Ext h ((h.new (.cells (gL g) 23)).new (.cells [.bool false] 4)):=(Av.new _ _).Ds _;have g1:((h.new (.cells (gL g) 23)).new (.cells [.bool false] 4)).get h.next=some (.cells (gL g) 23):=by rw[Az _ (aL _)];exact Ad _ _
 have g4:((h.new (.cells (gL g) 23)).new (.cells [.bool false] 4)).get (h.next+1)=some (.cells [.bool false] 4):=Ad _ _;have n1:((h.new (.cells (gL g) 23)).new (.cells [.bool false] 4)).next=h.next+2:=rfl
 rw[show(h.new (.cells (gL g) 23)).next=h.next+1 from rfl];generalize (h.new (.cells (gL g) 23)).new (.cells [.bool false] 4)=M at x1 g1 g4 n1⊢;have P:=x1.hb hb;rw[W];simp only[Aa,Ac,Ud];rw[Bp g1 rfl (Ai (n:=6) rfl)]
 try simp only[Aa]
 rw[show EV.agg (gL g)=gV g from rfl];refine(Yz (K:=K) A (by omega) (d:=d) (by omega) g P).An ?_;rintro v h2 ⟨k2,k,U⟩;have t2:=k2.next
 have m:∀i,i<h.next->h2.get i=h.get i:=fun i hi=>by rw[k2.get i (by omega) fun y=>y (show i<M.next by omega),x1.get i hi id]
 have J:=k2.at P g4 (show h.next+1<M.next by omega);have bk:Cg (.tuple []) false=false/\Cg (.tuple []) true=false:=⟨rfl,rfl⟩;have kk:∀h':Ab,(∀j,j<h.next->h'.get j=h.get j)->(fun(v:EV) (h':Ab)=>v=EV.bool true/\∀i,i<h.next->h'.get i=h.get i) (.bool true) h':=fun h' y=>⟨rfl,y⟩
 by_cases hy:rtB g=true/\g.D*g.Z<=64
 case neg=>
  rw[aF hy]at U;subst U;refine Ok.st1 (Ad _ _) rfl rfl (by show 0<1;decide) ?_;obtain⟨V,e_,C,g5,n3⟩:=nP h2 (.cells [.E3] 26) (.cells ([EV.E3].set 0 .E3) 26);rw[e_];have F:=C.hb k;have a2:=C.next
  rw[Al g5 rfl (v:=.E3) rfl,Ai6];simp only[Aa,Ac,F2];exact A8x (ds:=[]) F (C.at k J) (by omega) (by omega) (fun j hj=>(C.get j (by omega) id).trans (m j hj)) (fun d hd=>by cases hd) cq kk
 rw[aG hy]at U;obtain⟨B,rfl,C2,lB⟩:=U;refine Ok.st1 (Ad _ _) rfl rfl (by show 0<1;decide) ?_;obtain⟨V,e_,C,g5,n3⟩:=nP h2 (.cells [.E3] 26) (.cells ([EV.E3].set 0 (.ptr B.c 0)) 26);rw[e_];have F:=C.hb k;have a2:=C.next
 have E:∀i,i<h.next->V.get i=h.get i:=fun j hj=>(C.get j (by omega) id).trans (m j hj)
 rw[Al g5 rfl (v:=.ptr B.c 0) rfl,Aoy];simp only[Aa,Ac];rw[R0.F3];simp only[I,Ac];by_cases S:40<(O.length:Int)
 ·simp only[S,aB,Aa,Ac,F2]
  exact A8x (ds:=[]) F (C.at k J) (by omega) (by omega) E (fun d hd=>by cases hd) cq kk
 simp only[S,aA,Aa,Ac,F2,Ui];rw[R0.F3];have l5:=F _ _ g5;refine Br2 (K:=K) (N:=h.next) (a4:=h.next+1) (a5:=h2.next) A hK hd R0 (by omega) kk K 0 V (Co.start g) (Tq g) (fun _=>-1) _ [] (Bg (fun i=>i<M.next) h2 V) (by omega) (by omega) ?_ ⟨C2.ext C,LwI.start hy.1,fun j hj=>.inl (by show j<M.next;omega),by omega,E,C.at k J,g5,.inl (by show h.next+1<M.next;omega),.inr ⟨aE _,l5⟩,by omega,fun d hd=>(by cases hd),cq⟩;refine⟨?_,?_⟩<;>simp only[Gz,reduceIte,Nat.reduceEqDiff]
end Go.Ev
