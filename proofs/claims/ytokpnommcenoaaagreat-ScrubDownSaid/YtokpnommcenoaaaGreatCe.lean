import Derived.Test.YtokpnommcenoaaaGreatCd
import Derived.Test.YtokpnommcenoaaaGreatDc
import Derived.Test.YtokpnommcenoaaaGreatVb
set_option linter.all false
namespace Go.Ev
open Go.Proofs
set_option maxRecDepth 100000
variable {g:Gm}{x:Me}{h h':Ab}{S:Kx}{F:Nat->Prop}{e:Int}{B:Cb}{X Y:Co}{K d q:Nat}{disp:Nat->Option FT}
noncomputable def Mi.Ba8(cur Cv:Nat->Int)(S:Mi)(z:Int):Mi:=if A1o cur Cv z=true then S else S.Bd7 z
noncomputable def Mi.Aj9(cur Cv:Nat->Int)(S:Mi):Nat->Mi
 | 0=>S
 | n+1=>(Mi.Aj9 cur Cv S n).Ba8 cur Cv n
theorem Bjn(cur Cv:Nat->Int)(S:Mi)(z:Int):(S.Ba8 cur Cv z).bad=S.bad/\(S.Ba8 cur Cv z).g=S.g/\(S.Ba8 cur Cv z).dr=S.dr:=by
 unfold Mi.Ba8;split<;>exact⟨rfl,rfl,rfl⟩
theorem Ak5(cur Cv:Nat->Int)(S:Mi):∀n,(S.Aj9 cur Cv n).bad=S.bad/\(S.Aj9 cur Cv n).g=S.g/\(S.Aj9 cur Cv n).dr=S.dr
 | 0=>⟨rfl,rfl,rfl⟩
 | n+1=>by
  obtain⟨a,b,c⟩:=Bjn cur Cv (S.Aj9 cur Cv n) n;obtain⟨d,e,f⟩:=Ak5 cur Cv S n;exact⟨a.trans d,b.trans e,c.trans f⟩
def Ve(g:Gm):Nat->Int:=N9 (N9 (N9 (fun _=>-1) 0 0) 1 g.Z) 2 (2*g.Z)
def Vb(g:Gm):Nat->Int:=N9 (N9 (N9 (fun _=>-1) 0 1) 1 (g.Z+1)) 2 (2*g.Z+1)
noncomputable def Co.start(g:Gm):Co:=⟨(Mi.new g).Aj9 (Ve g) (Vb g) (g.D*g.Z).toNat,Ve g,Vb g,List.replicate g.B.toNat (Me.nil 0),0,1,1,false⟩
theorem Bry(a:rtB g=true):g.P+3<=g.Z:=by
 have s:=Ul a;have h:2*g.B<=g.S*g.segments:=by
  unfold rtB at a;simp only[bL,bM]at a;exact a.2.2
 have:=s.b0;have:=s.s0;have:=s.d0;have:=s.p0;have b:1<=g.segments:=by
  rcases Int.lt_or_le 0 g.segments with y|y
  ·omega
  ·have:g.S*g.segments<=g.S*0:=eA y (by omega)
   omega
 by_cases f:g.P+3<=g.Z
 ·exact f
 ·exfalso
  unfold Gm.segments at b;have u0:(g.D-1)*(g.Z-g.P-2)<=0:=Int.mul_nonpos_of_nonneg_of_nonpos (by omega) (by omega);have dp:0<=g.D*g.P:=Int.mul_nonneg (by omega) (by omega);have h2:g.least<=(g.D-1)*(g.Z-g.P-2)-g.Aln+1:=Int.min_le_left _ _;unfold Gm.Aln at h2;omega
theorem Aiy(s:Sm g){i:Nat}{k:Int}(f:(i:Int)<g.D)(a:0<=k)(b:k<g.Z):Eu g (i*g.Z+k)=i:=by
 have:=s.z0;have j:(0:Int)<=i*g.Z:=Int.mul_nonneg (by omega) (by omega);have h2:(i:Int)*g.Z+g.Z<=g.D*g.Z:=by
  have:((i:Int)+1)*g.Z<=g.D*g.Z:=Int.mul_le_mul_of_nonneg_right (by omega) (by omega);rw[Int.add_mul,Int.one_mul]at this;exact this
 unfold Eu;rw[aM (by omega),Int.add_comm,Int.add_mul_ediv_right _ _ (by omega),Int.ediv_eq_zero_of_lt a b,Int.zero_add]
theorem A89 {m a b:Nat}{x y z:Int}(h:Ab):Aor K (.ptr m 0) (.ptr a 0) (.ptr b 0) (.agg [I x,I y,I z]) h=some (.ptr (h.next+1) 0,(h.new (.cells [I x,I y,I z] 104)).new (.cells [.ptr m 0,.ptr a 0,.ptr b 0,I x,I y,I z,.bool false] 130)):=by
 simp only[Aor,Aa];rw[Cy (Ad _ _) rfl,Ak (n:=3) rfl]
 try simp only[Aa]
 rw[Aw (l:=[.ptr m 0,.ptr a 0,.ptr b 0,I x,I y,I z,.bool false]) rfl]
 try simp only[Aa]
 rfl
theorem Co.Bl4(a:rtB g=true):(Co.start g).Wf:=by
 have s:=Ul a;have m:=Bry a;have:=s.d0;have:=s.p0;have:=s.z0;have:=s.s0;obtain⟨_,e2,e3⟩:=Ak5 (Ve g) (Vb g) (Mi.new g) (g.D*g.Z).toNat;have b:(Co.start g).S.g=g:=e2;have d0:=Aiy s (i:=0) (k:=0) (by omega) (by omega) (by omega);have d1:=Aiy s (i:=1) (k:=0) (by omega) (by omega) (by omega);have d2:=Aiy s (i:=2) (k:=0) (by omega) (by omega) (by omega);have o0:=Aiy s (i:=0) (k:=1) (by omega) (by omega) (by omega);have o1:=Aiy s (i:=1) (k:=1) (by omega) (by omega) (by omega);have f:=Aiy s (i:=2) (k:=1) (by omega) (by omega) (by omega);refine⟨by rw[b];exact a,⟨fun i j=>.inr ?_,fun i j=>.inr ?_⟩,?_⟩
 ·rw[b]
  rcases(show i=0\/i=1\/i=2 by omega)with rfl|rfl|rfl
  ·rw[<-d0];congr 1;show(0:Int)=_;omega
  ·rw[<-d1];congr 1;show g.Z=_;omega
  ·rw[<-d2];congr 1;show 2*g.Z=_;omega
 ·rw[b]
  rcases(show i=0\/i=1\/i=2 by omega)with rfl|rfl|rfl
  ·rw[<-o0];congr 1;show(1:Int)=_;omega
  ·rw[<-o1];congr 1;show g.Z+1=_;omega
  ·rw[<-f];congr 1
 ·show 0<(Co.start g).S.dr.dv.size
  rw[show(Co.start g).S.dr=(Mi.new g).dr from e3];show 0<g.S.toNat;omega
def z8(b:Nat):EV:=.int .u8 (Int.ofNat b)
theorem Bej {b:Nat}{v2 v3:Nat}(n23:v2≠v3):∀(m i:Nat) (h:Ab),32-i<m->i<=32->HB h->h.get v2=some (.cells (List.replicate 32 (z8 0)) 85)->h.get v3=some (.cells (List.replicate i (z8 b)++List.replicate (32-i) (z8 0)) 85) ->
 Ok (Vi K m (z8 b) (.ptr v2 0) (.ptr v3 0) (I i) h) fun v h'=>v=.agg (List.replicate 32 (z8 b))/\Au (fun j=>j=v2\/j=v3) h h'/\HB h':=by
 intro m;induction m with
 | zero=>intro i h hm;omega
 | succ m y=>
  intro i h hm D hb a f;rw[Vi];simp only[I,Ac,Aa];by_cases k:i<32
  ·have:decide ((i:Int)<32)=true:=by simp;omega
   simp only[this,Aa,Asw];rw[Vo k];simp only[Aa,bk];have t:=hb _ _ f;refine Ok.st1 f rfl rfl (by simp;omega) ?_;simp only[Asb,Ac];rw[Cg,show((i:Nat):Int)+1=((i+1:Nat):Int) by omega];have C:((List.replicate i (z8 b)++List.replicate (32-i) (z8 0)).set i (z8 b))=List.replicate (i+1) (z8 b)++List.replicate (32-(i+1)) (z8 0):=by
    rw[eK _ _ (by simp),bT,fR,show 32-i=(32-(i+1))+1 by omega,eF,List.set_cons_zero,List.replicate_succ',b9];rfl
   rw[C];refine(y (i+1) _ (by omega) (by omega) (hb.put t _) (by rw[Af _ (cT n23)];exact a) (Ae _ _ _)).mono ?_;rintro v h' ⟨rfl,c,o⟩;exact⟨rfl,((Au.refl (S:=fun j=>j=v2\/j=v3) h).Ao (.inl (.inr rfl)) t _).trans c,o⟩
  ·have:decide ((i:Int)<32)=false:=by simp;omega
   have p:i=32:=by omega
   subst p;simp only[this,Aa,Asr];rw[Cy f rfl,Ak (n:=32) (by simp)];simp only[Aa];have u:=hb _ _ a;refine Ok.st (List.replicate 32 (z8 b)) a rfl rfl (Bm rfl) ?_;rw[Qo (Ae _ _ _) Arw.1 Arw.2 rfl];exact .ret ⟨rfl,(Au.refl (S:=fun j=>j=v2\/j=v3) h).Ao (.inl (.inl rfl)) u _,hb.put u _⟩
theorem Bke(hK:100<K)(b:Nat)(hb:HB h):Ok (Al0 K (z8 b) h) fun v h'=>v=.agg (Bk (List.replicate 32 b))/\Ext h h'/\HB h':=by
 simp only[Al0,Aa];rw[show(h.new (.cells (List.replicate 32 (EV.int .u8 0)) 85)).next=h.next+1 from rfl];have j:Ext h ((h.new (.cells (List.replicate 32 (EV.int .u8 0)) 85)).new (.cells (List.replicate 32 (EV.int .u8 0)) 85)):=(Au.new _ _).C8 _;have k:((h.new (.cells (List.replicate 32 (EV.int .u8 0)) 85)).new (.cells (List.replicate 32 (EV.int .u8 0)) 85)).get h.next=some (.cells (List.replicate 32 (z8 0)) 85):=by
  rw[Ay _ (aR _)];exact Ad _ _
 have m:((h.new (.cells (List.replicate 32 (EV.int .u8 0)) 85)).new (.cells (List.replicate 32 (EV.int .u8 0)) 85)).get (h.next+1)=some (.cells (List.replicate 0 (z8 b)++List.replicate (32-0) (z8 0)) 85):=Ad _ _;refine(Bej (K:=K) (b:=b) (v2:=h.next) (v3:=h.next+1) (by omega) K 0 _ (by omega) (by omega) (j.hb hb) k m).mono ?_;rintro v h' ⟨rfl,c,a⟩;refine⟨?_,j.then c fun i f n=>?_,a⟩
 ·unfold Bk;rw[fT];rfl
 ·rcases f with f|f<;>omega
structure Bn1 where
 kind:Int
 x:Int
 y:Int
 bl:EV
 bq:Nat
 bs:List Int
 ev:Lg
def Bn1.cells(o:Bn1):List EV:=[I o.kind,I o.x,I o.y,o.bl]++o.ev.cells
theorem Bn1.len {o:Bn1}(w:o.ev.Wf):o.cells.length=72:=by
 unfold Bn1.cells;rw[aG,Lg.Az w];rfl
def wb(n:Int):Nat:=(n%256).toNat
theorem Bt2(n:Int):wb n<256:=by unfold wb;omega
theorem Br1(a:Int){bl:List Nat}(b:bl.length=32):Aca (Dg [(0,1),(1,32)]) [(0,I a),(1,.agg (Bk bl))] ([EV.int .i64 0]++List.replicate 32 (.int .u8 0))=some (⟨a,bl⟩:Wr).cells:=by
 have hs:=Ak7 [I a] (List.replicate 32 (EV.int .u8 0)) (Bk bl) (by rw[Bg,b];simp);rw[<-U6]at hs;show Ax (Nat.beq (Fl (Bk bl)) 32) (oB (fun z=>some z) (Mh ([I a]++List.replicate 32 (EV.int .u8 0)) 1 (Bk bl))) none=_;rw[Bf,Bg,b,cI,Aj];rw[show(1:Nat) = [I a].length from rfl,hs];rfl
def Mi.evs(S:Mi):Nat:=S.dr.ev.length+S.dr.Pd.length
structure Bur(h h':Ab)(B:Cb)(X:Co)(F:Nat->Prop)(Y:Co):Prop where
 C:Cu h' B Y F
 k:Kf F h h'
 g:Y.S.g=X.S.g
 ev:Y.S.evs<=X.S.evs+1
theorem Bm1(A:Bw disp)(b:disp 105=some Bal)(hK:10000<K){m:Nat}{S:Mi}(M:Df h m S F)(hb:HB h){e:Lg}(w:e.Wf)(j:S.evs<=199):
 ∃D,Bj K (.ptr m 0) h=some (.ptr D 0,h)/\∀{d:Nat},2<=d->Ok (Ag TT disp K d false 46 [.ptr D 0,.agg e.cells] h) fun _ h'=>∃l:List Lg,l.length<=S.dr.ev.length+1/\Df h' m { S with dr:={ S.dr with ev:=l } } F/\Kf F h h'/\HB h':=by
 obtain⟨lt,D,p,bl,ql,np,q,c,G,a⟩:=M.s;refine⟨D,Mq a.Hf,fun hd=>?_⟩;refine(Bao A b hK hd a.drv hb w j).mono ?_;rintro _ h' ⟨l,f,k,n,i⟩;obtain⟨o,t⟩:=M.drv hb a k n;exact⟨l,f,o,t,i⟩
theorem Cu.Bou(C:Cu h B X F){l:List Lg}(f:l.length<=X.S.dr.ev.length+1)(b:Df h' B.m { X.S with dr:={ X.S.dr with ev:=l } } (B.fr F))(k:Kf (B.fr F) h h')(a:HB h'):Bur h h' B X F { X with S:={ X.S with dr:={ X.S.dr with ev:=l } } }:=by
 refine⟨⟨b,k.at C.hb C.core (.inr (.inl rfl)),k.at C.hb C.ar (.inr (.inr (.inl rfl))),?_,⟨C.wf.rt,C.wf.an.of rfl,C.wf.sz⟩,C.out,a⟩,k.less fun _=>.inl,rfl,?_⟩
 ·exact C.map.frame (k.get _ (C.hb _ _ C.map.map) fun y=>y (.inr (.inr (.inr (.inl rfl))))) (k.get _ (C.hb _ _ C.map.row) fun y=>y (.inr (.inr (.inr (.inr (.inl rfl)))))) (k.get _ (C.hb _ _ C.map.live) fun y=>y (.inr (.inr (.inr (.inr (.inr rfl))))))
 ·show l.length+X.S.dr.Pd.length<=X.S.dr.ev.length+X.S.dr.Pd.length+1
  omega
section
structure Sb where
 cu:Int
 de:Bool
 st:Int
 be:Int
 ba:Int
 l0:Int
 l1:Int
def Sb.cells(s:Sb)(c:Nat):List EV:=[.ptr c 0,I s.cu,.bool s.de,I s.st,I s.be,I s.ba,I s.l0,I s.l1]
abbrev Se(h:Ab)(q c:Nat)(s:Sb):Prop:=h.get q=some (.cells (s.cells c) 146)
section
variable{s:Sb}
theorem A5a(g:Se h q B.c s):Lp K (.ptr q 0) h=some (I s.cu,h):=by
 simp only[Lp,Aa];rw[Ah g rfl rfl]
theorem A09(g:Se h q B.c s):J3 K (.ptr q 0) h=some (I s.st,h):=by
 simp only[J3,Aa];rw[Ah g rfl rfl]
theorem A45(g:Se h q B.c s):L6 K (.ptr q 0) h=some (.bool s.de,h):=by
 simp only[L6,Aa];rw[Ah g rfl rfl]
theorem A9m {n:Nat}(G:X.S.g.D*X.S.g.Z=n):∀(f i:Nat) (t:Int) (h:Ab),n-i<f->i<=n->0<=t->t<=i->Cu h B X F->Se h q B.c s ->
 Ok (Il K f (.ptr q 0) (I t) (I n) (I i) h) fun v h'=>(∃j,v=I j/\0<=j/\j<=n)/\Ext h h':=by
 intro f;induction f with
 | zero=>intro i t h u;omega
 | succ f m=>
  intro i t h u H t0 t1 C g;have bd:=C.sm.Agt;rw[Il];simp only[I,Ac];by_cases y:i<n
  ·have:decide ((i:Int)<(n:Int))=true:=by simp;omega
   simp only[this,Aa,Zu];rw[Ah g rfl rfl];simp only[Dc,Aa];rw[C.ldM]
   try simp only[Aa]
   refine(Jg (K:=K) C.M.s C.hb (z:=i) ⟨by omega,by omega⟩).Am ?_;rintro _ h2 ⟨rfl,b⟩;have o:=(C.Xa b).C;have p:=b.at C.hb g;cases X.S.Jr i with
   | true=>
    simp only[Aa,Qx,I,Ac];rw[Cg,Cg,show((i:Nat):Int)+1=((i+1:Nat):Int) by omega];refine(m (i+1) (t+1) h2 (by omega) (by omega) (by omega) (by omega) o p).mono ?_;rintro v E ⟨a,k⟩;exact⟨a,b.trans k⟩
   | false=>
    simp only[Aa,Qx,I,Ac];rw[Cg,show((i:Nat):Int)+1=((i+1:Nat):Int) by omega];refine(m (i+1) t h2 (by omega) (by omega) (by omega) (by omega) o p).mono ?_;rintro v E ⟨a,k⟩;exact⟨a,b.trans k⟩
  ·have:decide ((i:Int)<(n:Int))=false:=by simp;omega
   simp only[this,Aa,Zk];exact .ret ⟨⟨t,rfl,t0,by omega⟩,Au.refl _⟩
theorem A5t(hK:10000<K)(C:Cu h B X F)(g:Se h q B.c s):Ok (Ls K (.ptr q 0) h) fun v h'=>(∃f,v=I f/\0<=f/\f<=512)/\Ext h h':=by
 simp only[Ls,Aa];rw[Ah g rfl rfl];simp only[E8,Aa];rw[C.ldB];refine(Ih (K:=K) C.map C.hb).Am ?_;rintro _ h2 ⟨rfl,j,k⟩;rw[Ni C.sm,Ap];have x:Ext h (h2.new (.cells (gL X.S.g) 23)):=j.C8 _;have bd:=C.sm.Agt;obtain⟨n,i⟩:=aZ (show 0<=X.S.g.D*X.S.g.Z by omega);rw[i];refine(A9m i K 0 0 _ (by omega) (by omega) (by omega) (by omega) (C.Xa x).C (x.at C.hb g)).mono ?_;rintro v o ⟨⟨t,e,a,b⟩,m⟩;exact⟨⟨t,e,a,by omega⟩,x.trans m⟩
theorem Bbl(C:Cu h B X F)(g:Se h q B.c s)(b0:0<=s.cu)(b1:s.cu<1000):Ok (Nc K (.ptr q 0) h) fun v h'=>v=.bool (decide (s.cu+1=X.S.g.B+3))/\Ext h h':=by
 have sb:=C.sm.b0;have a:=C.sm.b1;simp only[Nc,Aa,Ar];have lq:=C.hb _ _ g;rw[Gy lq,Ah g rfl rfl]
 try simp only[Aa,Ar,I,Ac]
 rw[Gy lq,Ah g rfl rfl]
 try simp only[Aa,Ar]
 rw[Afk (v:=.ptr B.b 0) (by simp only[E8,Aa];rw[C.lift.ldB])];refine Ok.bE (Ih (K:=K) C.lift.map C.lift.hb) (fun _ _ p=>p.2.1) ?_;rintro _ j h2 ⟨rfl,k,f⟩ sm i;simp only[gV,gL,Aa,I,Ac];rw[Cg,Cg];exact .ret ⟨rfl,i⟩
end
end
section
def Vy(x:R)(h:Ab)(B:Cb)(X:Co)(F:Nat->Prop)(P:Bool->Int->Co->Prop):Prop:=Ok x fun v h'=>∃(b:Bool) (e:Int) (Y:Co),v=.tuple [.bool b,I e]/\Ex h h' B X F Y/\P b e Y
theorem Vy.ret{b:Bool}{P:Bool->Int->Co->Prop}(c:Ex h h' B X F Y)(p:P b e Y):Vy (some (.tuple [.bool b,.int .i64 e],h')) h B X F P:=Ok.ret ⟨b,e,Y,rfl,c,p⟩
theorem Vy.from {x:R}{f:Ab}{P:Bool->Int->Co->Prop}(c:Ex h f B X F Y)(a:Vy x f B Y F P):Vy x h B X F P:=by
 refine Ok.mono a ?_;rintro v h' ⟨b,e,Z,r,c2,p⟩;exact⟨b,e,Z,r,c.trans c2,p⟩
theorem A88(h:S.dv.down=true):S.due=S:=by
 obtain⟨D,ev,Pd⟩:=S;unfold Kx.due;cases ev with
 | nil=>rfl
 | cons e r=>
  show Azv (e::r) D Pd=_;unfold Azv;rw[aQ (.inl h)]
theorem Bby(h:S.dv.down=true)(z:Int):S.begin z=S:=by
 unfold Kx.begin;split
 ·exact A88 h
 ·rfl
theorem A5i(h:S.dv.down=true)(z off:Int):(S.read z off).2.2=34/\(S.read z off).1.dv.down=true:=by
 unfold Kx.read;rw[Bby h];have e:S.dv.Et z=34:=by unfold Dv.Et;rw[aQ h]
 refine⟨?_,?_⟩
 ·show(S.dv.read z off).2=34
  unfold Dv.read;rw[e];rfl
 ·show(S.dv.begin z).down=true
  unfold Dv.begin;split<;>exact h
theorem Bc3(h:S.dv.down=true):S.flush.2=34:=by
 unfold Kx.flush;rw[A88 h];show(S.dv.flush).2=34;unfold Dv.flush;rw[aQ h]
theorem Beh {S:Mi}(a:Ajw S.g x=true)(h:S.dr.dv.down=true):(S.check x).2.2.2=34:=by
 have c:(S.Dz x x.An x.Bt).2.2.2=34:=by
  unfold Mi.Dz;rw[(A5i h _ _).1];rfl
 unfold Mi.check;rw[aM (by rw[a];decide),aQ (by rw[c];decide)];exact c
theorem Bmd(m:meR g x=true)(h:x.state=1):Ajw g x=true:=by
 unfold meR at m;rw[aM (by omega),aQ h]at m;unfold Ajw;rw[m,aJ h];rfl
theorem Ex.sb{s:Sb}(c:Ex h h' B X F Y)(hb:HB h)(a:F q)(g:Se h q B.c s):Se h' q B.c s:=by
 show h'.get q=_;rw[c.k.get _ (hb _ _ g) fun w=>w a];exact g
section
variable (A:Bw disp)(hK:10000<K){s:Sb}
include A hK
theorem A9p {P:Bool->Int->Co->Prop}(a:∀b e Y,P b e Y)(C:Cu h B X F)(g:Se h q B.c s)(hd:28<=d)(j:Int):Vy (S8 (Ag TT disp K d false) (Ag TT disp K d true) K (.ptr q 0) (I j) h) h B X F P:=by
 simp only[S8,Aa];rw[Ah g rfl rfl];refine Ok.Am (Avq A hK C hd j) ?_;rintro _ h2 ⟨e,Y,rfl,c⟩;exact Vy.ret c (a _ _ _)
theorem Bad {P:Bool->Int->Co->Prop}(a:∀b e Y,P b e Y)(C:Cu h B X F)(g:Se h q B.c s)(hd:28<=d)(j n:Int):Vy (So (Ag TT disp K d false) (Ag TT disp K d true) K (.ptr q 0) (I j) (I n) h) h B X F P:=by
 simp only[So,I,Ac];by_cases f:n=2
 ·simp only[f,aB,Aa]
  exact Vy.ret (Ex.refl C) (a _ _ _)
 ·simp only[f,aA,Aa]
  exact A9p A hK a C g hd j
theorem Bbw(C:Cu h B X F)(k:F q)(g:Se h q B.c s)(hd:28<=d){v6:Nat}(i:h.get v6=some (.cells x.cells 53))(r:Qu x.An/\Qu x.Bt)(o:Ajw X.S.g x=true)(j:Int):
 Vy (Sj (Ag TT disp K d false) (Ag TT disp K d true) K (.ptr q 0) (I j) (.ptr v6 0) h) h B X F fun _ e _=>X.S.dr.dv.down=true->e=34:=by
 have lq:=C.hb _ _ g;have t:=C.hb _ _ i;simp only[Sj,Aa,Ar];rw[Gy lq,Ah g rfl rfl]
 try simp only[Aa,Ar]
 rw[Afk (v:=.ptr B.m 0) (by simp only[Dc,Aa];rw[C.lift.ldM])]
 try simp only[Aa,Ar]
 rw[Gy t,Cn i rfl (Ak (n:=6) rfl)]
 try simp only[Aa,Ar]
 refine Ok.bC (S:=fun j=>¬B.fr F j) (A5g A hK (d:=d) (by omega) C.lift.M C.lift.hb r.1 r.2) (fun _ _ p=>p.2.2.2.1) ?_;rintro _ u h2 s' ⟨rfl,a,y,_,b⟩ sm D f;have c2:=C.Hf (y.same sm) D (sm.hb b) (Bat _ x);have dn:=Beh (S:=X.S) o;generalize X.S.check x=P at c2 a dn⊢;obtain⟨S',bl,n,E⟩:=P;simp only at c2 a dn⊢;generalize ({ X with S:=S' }:Co)=Y at c2⊢;have ul:(Bk bl).length=32:=by rw[Bg,a]
 simp only[Aa];rw[Gh (by rcases f with rfl|⟨w,rfl,_⟩<;>kernel_rfl)];refine Ok.st (Bk bl) (Ad _ _) rfl (by show Fl (Bk bl)=32;rw[Bf,ul]) (Bm (by rw[bT];exact ul.symm)) ?_;obtain⟨J,G,H,_,_⟩:=nP h2 (.cells (List.replicate 32 (EV.int .u8 0)) 85) (.cells (Bk bl) 85);rw[G];have c3:=c2.trans (c2.C.Xa H);simp only[I,Ac];by_cases h0:E=34
 ·simp only[h0,aB,Aa]
  exact Vy.ret c3 fun _=>rfl
 ·simp only[h0,aA,Aa]
  exact Vy.from c3 (Bad A hK (fun _ _ _ d=>absurd (dn d) h0) c3.C (c3.sb C.hb k g) hd j n)
theorem Bnj(C:Cu h B X F)(f:F q)(g:Se h q B.c s)(hd:29<=d)(j:Int):Vy (Ag TT disp K d false 151 [.ptr q 0,I j] h) h B X F fun _ e _=>X.S.dr.dv.down=true->e=34\/e=0/\¬(Aeu X.es j).1.state=1:=by
 obtain⟨e,rfl⟩:∃k,d=k+1:=⟨d-1,by omega⟩;rw[Aog A (by omega)];simp only[Ahk,Aa];rw[Ah g rfl rfl];simp only[E8,Aa];rw[C.ldB]
 try simp only[Aa]
 refine(Tf (K:=K) C.sm C.map C.hb j).Am ?_;rintro _ h2 ⟨rfl,i⟩;have c2:=C.Xa i;have rg:=A7l C.sm (A22 C.map.ok j);have hm:=A22 C.map.ok j;generalize Aeu X.es j=P at rg hm⊢;obtain⟨x,n⟩:=P;simp only[Aa];refine Ok.mk rfl rfl fun o m e3 _=>?_
 have c3:=c2.trans (c2.C.Xa m);rw[Ah e3 rfl (v:=I x.state) rfl];simp only[I,Ac];by_cases a:x.state=1
 ·simp only[a,aC,aA,Aa]
  refine(Vy.from c3 (Bbw A hK c3.C f (c3.sb C.hb f g) (d:=e) (by omega) e3 rg (Bmd hm a) j)).mono ?_;rintro v h' ⟨b,e,Y,r,c,p⟩;exact⟨b,e,Y,r,c,fun d=>.inl (p d)⟩
 ·simp only[a,aF,aB,Aa]
  exact Vy.ret c3 fun _=>.inr ⟨rfl,by first|exact a|trivial⟩
end
end
section
def Awh(disp:Nat->Option FT)(K d:Nat):Prop:=∀{h:Ab} {B:Cb} {X:Co} {F:Nat->Prop} {q:Nat} {s:Sb},Cu h B X F->F q->Se h q B.c s->∀j:Int,0<=j->j<3->Vy (Ag TT disp K d false 202 [.ptr q 0,I j] h) h B X F fun b e Y=>X.S.dr.dv.down=true->Y.S.dr.dv.down=true/\(e=34\/b=false/\e=0)
theorem Co.Bk0{d:Int}(h0:0<=d*X.S.g.Z):∀j:Nat,-1<=X.few d j/\X.few d j<=d*X.S.g.Z+j
 | 0=>⟨by show(-1:Int)<=-1;omega,by show(-1:Int)<=_;omega⟩
 | j+1=>by
  obtain⟨a,b⟩:=Co.Bk0 h0 j;rw[Co.few];split
  ·exact⟨by omega,by omega⟩
  ·exact⟨a,by omega⟩
theorem Bcx(sm:Sm X.S.g){d:Int}:Qu (X.Ajx d):=by
 have:=sm.d0;have:=sm.d1;have:=sm.z0;have:=sm.z1;unfold Co.Ajx;split
 ·rename_i hd
  obtain⟨f,i⟩:=N3 (a:=d) (b:=X.S.g.Z) (A:=8) (B:=64) (by omega) (by omega) (by omega) (by omega);obtain⟨a,b⟩:=Co.Bk0 (X:=X) f X.S.g.Z.toNat;exact⟨by omega,by omega⟩
 ·exact⟨by omega,by omega⟩
section
variable (A:Bw disp)(hK:10000<K)(H27:disp 27=some (Acz F27)){s:Sb}
include A hK
theorem Bd8(C:Cu h B X F)(g:Se h q B.c s)(hd:21<=d):Ec (Uo (Ag TT disp K d false) (Ag TT disp K d true) K (.ptr q 0) h) h B X F:=by
 simp only[Uo,Aa];rw[Ah g rfl rfl];refine Ok.Am (N8 A hK C hd) ?_;rintro _ h2 ⟨e,Y,rfl,c⟩;exact Ec.ret c
theorem Beb(C:Cu h B X F)(a:F q)(g:Se h q B.c s)(hd:24<=d){z:Int}(b:Qu z):Ec (Us (Ag TT disp K d false) (Ag TT disp K d true) K (.ptr q 0) (I z) h) h B X F:=by
 simp only[Us,Aa];rw[Ah g rfl rfl];refine Ok.Am (A4p A hK C hd b) ?_;rintro _ h2 ⟨e,Y,rfl,c⟩;simp only[I,Ac];by_cases h0:e=0
 ·simp only[h0,aC,aA,Aa]
  exact Ec.from c (Bd8 A hK c.C (c.sb C.hb a g) (by omega))
 ·simp only[h0,aF,aB,Aa]
  exact Ec.ret c
include H27
omit H27 in
theorem Azk(C:Cu h B X F)(dn:X.S.dr.dv.down=true)(hd:21<=d):Ok (Ag TT disp K d false 73 [.ptr B.c 0] h) fun v h'=>v=I 34/\∃Y,Ex h h' B X F Y:=by
 obtain⟨e,rfl⟩:∃k,d=k+1:=⟨d-1,by omega⟩;rw[Vd A (by omega)];simp only[Sn,Aa];rw[C.ldM];obtain⟨D,V,dr⟩:=Aiw A hK C.M C.hb;rw[dr.Dd];refine Ok.Am (dr.flush (d:=e) (by omega)) ?_;rintro v h' ⟨rfl,b,kf,a⟩;rw[Bc3 dn];simp only[I,Ac,show decide (¬(34:Int)=0)=true from rfl,Aa];exact .ret ⟨rfl,_,C.Hf b kf a (Aya (Aqf _))⟩
omit H27 in
theorem Bi5(C:Cu h B X F)(g:Se h q B.c s)(dn:X.S.dr.dv.down=true)(hd:25<=d)(j:Int):Ok (Ag TT disp K d false 203 [.ptr q 0,I j] h) fun v h'=>v=I 34/\∃Y,Ex h h' B X F Y:=by
 obtain⟨e,rfl⟩:∃k,d=k+1:=⟨d-1,by omega⟩;rw[Aa6 A (by omega)];simp only[Z9,Aa];rw[Ah g rfl rfl];refine Ok.Am (Azk A hK C dn (d:=e) (by omega)) ?_;rintro _ h2 ⟨rfl,a,c2⟩;simp only[I,Ac,show decide (¬(34:Int)=0)=true from rfl,Aa];exact .ret ⟨rfl,a,c2⟩
theorem Bpz(C:Cu h B X F)(a:F q)(g:Se h q B.c s)(hd:25<=d)(cur:Awh disp K (d-1))(j:Int)(o:0<=j)(p:j<3):Ec (Ag TT disp K d false 203 [.ptr q 0,I j] h) h B X F:=by
 obtain⟨e,rfl⟩:∃k,d=k+1:=⟨d-1,by omega⟩;rw[Aa6 A (by omega)];simp only[Z9,Aa];rw[Ah g rfl rfl];refine Ok.Am (N8 A hK C (d:=e) (by omega)) ?_;rintro _ h2 ⟨e2,D,rfl,c2⟩;simp only[I,Ac];by_cases h0:e2=0
 case neg=>
  simp only[h0,aF,aB,Aa];exact Ec.ret c2
 simp only[h0,aC,aA,Aa,Ad7];refine Ok.Am (cur c2.C a (c2.sb C.hb a g) j o p) ?_;rintro _ E ⟨ok,e3,f,rfl,b,_⟩;have c3:=c2.trans b;have t:=c3.sb C.hb a g;simp only[Aa];rw[Ah t rfl rfl];refine Ok.Am (Bgy A (by omega) c3.C H27 (d:=j) (dp:=e) (by omega) (by omega)) ?_;rintro _ h4 ⟨rfl,u⟩;have c4:=c3.trans (c3.C.Xa u);have v:=c4.sb C.hb a g;have i:Qu (f.Ajx j):=Bcx c3.C.sm;generalize f.Ajx j=z at i⊢;have y:D6 (.tuple []) false=false/\D6 (.tuple []) true=false:=⟨rfl,rfl⟩;cases ok with
 | true=>
  simp only[Aa,Oj,J9,I,Ac];exact Ec.ret c4
 | false=>
  simp only[Aa,I,Ac];by_cases m:e3=0
  ·simp only[m,aC,aA,Aa,Oj,Ac]
   by_cases n:z = -1
   ·simp only[n,aB,Aa,J9]
    exact Ec.ret c4
   ·simp only[n,aA,Aa,J9]
    exact Ec.from c4 (Beb A hK c4.C a v (d:=e) (by omega) i)
  ·simp only[m,aF,aB,Aa,Oj,J9]
   exact Ec.ret c4
theorem Bp3(C:Cu h B X F)(b:F q)(g:Se h q B.c s)(hd:26<=d)(cur:∀e,d-2<=e->Awh disp K e)(j:Int)(i:0<=j)(m:j<3):Vy (Ag TT disp K d false 150 [.ptr q 0,I j] h) h B X F fun _ e _=>X.S.dr.dv.down=true->e=34:=by
 obtain⟨e,rfl⟩:∃k,d=k+1:=⟨d-1,by omega⟩;rw[Aph A (by omega)];simp only[Akt,Aa];refine Ok.Am (cur e (by omega) C b g j i m) ?_;rintro _ h2 ⟨ok,e2,t,rfl,c2,dn⟩;have n:=c2.sb C.hb b g;have rest:Vy (Uj (Ag TT disp K e false) (Ag TT disp K e true) K (.ptr q 0) (I j) h2) h B X F fun _ e _=>X.S.dr.dv.down=true->e=34:=by
  simp only[Uj];by_cases a:X.S.dr.dv.down=true
  ·refine Ok.Am (Bi5 A hK c2.C n (dn a).1 (d:=e) (by omega) j) ?_
   rintro _ o ⟨rfl,p,c3⟩;exact Vy.ret (c2.trans c3) fun _=>rfl
  refine Ok.Am (Bpz A hK H27 c2.C b n (d:=e) (by omega) (cur _ (by omega)) j i m) ?_;rintro _ o ⟨e3,p,rfl,c3⟩;exact Vy.ret (c2.trans c3) fun y=>absurd y a
 cases ok with
 | true=>
  simp only[Aa,Oq];exact Vy.ret c2 fun y=>(dn y).2.elim id fun z=>by cases z.1
 | false=>
  simp only[Aa,I,Ac];by_cases f:e2=0
  ·simp only[f,aC,aA,Aa,Oq]
   exact rest
  ·simp only[f,aF,aB,Aa,Oq]
   exact Vy.ret c2 fun y=>(dn y).2.elim id fun z=>absurd z.2 f
end
end
section
section
variable (A:Bw disp)(hK:10000<K)(H27:disp 27=some (Acz F27)){s:Sb}
include A hK H27
theorem Bo1(C:Cu h B X F)(b:F q)(g:Se h q B.c s)(hd:30<=d)(cur:∀e,d-3<=e->Awh disp K e)(o:0<=s.cu)(c1:s.cu<X.S.g.B+3):Vy (Ag TT disp K d false 86 [.ptr q 0] h) h B X F fun _ e _=>X.S.dr.dv.down=true->e=34\/e=0/\s.cu<X.S.g.B/\¬(Aeu X.es s.cu).1.state=1:=by
 obtain⟨e,rfl⟩:∃k,d=k+1:=⟨d-1,by omega⟩;have sb:=C.sm.b0;have i:=C.sm.b1;rw[Apj A (by omega)];simp only[Ak8,Aa];rw[Ah g rfl rfl];simp only[E8,Aa];rw[C.ldB]
 try simp only[Aa]
 refine(Ih (K:=K) C.map C.hb).Am ?_;rintro _ h2 ⟨rfl,j,m⟩;have c2:=C.Xa j;have a:=c2.sb C.hb b g;simp only[gV,gL,Aa,I,Ac];rw[Ah a rfl rfl];simp only[I,Ac];by_cases f:s.cu<X.S.g.B
 ·have:¬X.S.g.B<=s.cu:=by omega
  simp only[f,this,aB,aA,aC,Aa,Aep];rw[Ah a rfl rfl];refine(Bnj A hK c2.C b a (d:=e) (by omega) s.cu).Am ?_;rintro _ n ⟨ok,e3,Y,rfl,c3,dn⟩;simp only[Aa];exact Vy.ret (c2.trans c3) fun y=>(dn y).elim .inl fun z=>.inr ⟨z.1,by first|exact f|trivial,z.2⟩
 ·have:X.S.g.B<=s.cu:=by omega
  simp only[f,this,aB,aA,aF,Aa];rw[Ah a rfl rfl];simp only[I,Ac];rw[Cg];refine(Bp3 A hK H27 c2.C b a (d:=e) (by omega) (fun k p=>cur k (by omega)) (s.cu-X.S.g.B) (by omega) (by omega)).Am ?_;rintro _ n ⟨ok,e3,Y,rfl,c3,dn⟩;simp only[Aa];exact Vy.ret (c2.trans c3) fun y=>.inl (dn y)
end
end
section
theorem Bui {b:Int}{T:Hh}{t:Nat}{a:Int}{k:EV->R}(hb:0<b)(f:0<=a):Agi (bin T .rem t) (.int .i64 a) (.int .i64 b) k=k (.int .i64 (a%b)):=by
 obtain⟨n,rfl⟩:=aZ (Int.le_of_lt hb);show oB k (Ax (eqB (.ofNat n) 0) none (some (.int .i64 (a.tmod (.ofNat n)))))=_;have:eqB (.ofNat n) 0=false:=by
  show Nat.beq n 0=false;cases n with
  | zero=>exact absurd hb (by decide)
  | succ n=>rfl
 rw[this,Bc];have e:a.tmod (.ofNat n)=a%n:=Int.tmod_eq_emod_of_nonneg f;rw[e];rfl
def Sb.next(s:Sb)(n:Int)(ok de:Bool)(be ba:Int):Sb:=⟨(s.cu+1)%(n+3),de,s.st+1,be,ba,if ok=true then be else s.l0,if ok=true then s.st+1 else s.l1⟩
section
variable{s:Sb}
theorem Cu.Bin(C:Cu h B X F)(a:F q)(g:Se h q B.c s)(s':Sb):Cu (h.put q (.cells (s'.cells B.c) 146)) B X F/\Se (h.put q (.cells (s'.cells B.c) 146)) q B.c s'/\Au (fun i=>i=q) h (h.put q (.cells (s'.cells B.c) 146)):=by
 have lq:=C.hb _ _ g;have c:Au (fun i=>i=q) h (h.put q (.cells (s'.cells B.c) 146)):=by
  exact Au.Ao (S:=fun i=>i=q) (Au.refl h) (.inl rfl) lq _
 exact⟨C.Agw c (fun i e _=>by subst e;exact a) (C.hb.put lq _),Ae _ _ _,c⟩
theorem Bcb(c r:Ai)(C:Cu h B X F)(j:F q)(g:Se h q B.c s)(c0:0<=s.cu)(c1:s.cu<X.S.g.B+3)(t0:0<=s.st)(t1:s.st<1000)(ok de:Bool)(e be ba:Int):
 Ok (On c r K (.ptr q 0) (.bool ok) (I e) (I be) (I ba) (.bool de) h) fun v h'=>v=.tuple [.bool ok,I e]/\Cu h' B X F/\Se h' q B.c (s.next X.S.g.B ok de be ba)/\Au (fun i=>i=q) h h':=by
 have sb:=C.sm.b0;have U:=C.sm.b1;simp only[On,Aa];rw[Ah g rfl (v:=I s.st) rfl];simp only[I,Ac];rw[Cg];refine Ok.st (({ s with st:=s.st+1 }:Sb).cells B.c) g rfl rfl rfl ?_;obtain⟨a,k,D⟩:=C.Bin j g { s with st:=s.st+1 };generalize h.put q (.cells (({ s with st:=s.st+1 }:Sb).cells B.c) 146)=h1 at a k D⊢;have lq:=a.hb _ _ k
 try simp only[Aa,Ar]
 rw[Gy lq,Ah k rfl (v:=I s.cu) rfl]
 try simp only[Aa,Ar,I,Ac]
 rw[Cg,Gy lq,Ah k rfl rfl]
 try simp only[Aa,Ar]
 rw[Afk (v:=.ptr B.b 0) (by simp only[E8,Aa];rw[a.lift.ldB])];refine Ok.bE (Ih (K:=K) a.lift.map a.lift.hb) (fun _ _ p=>p.2.1) ?_;rintro _ V h2 ⟨rfl,W,Z⟩ sm o;have C2:=(a.Xa o).C;have E:=o.at a.hb k;simp only[gV,gL,Aa,I,Ac];rw[Cg,Bui (by omega) (by omega)]
 try simp only[Aa,Ar]
 rw[Gh];refine Ok.st (({ s with st:=s.st+1,cu:=(s.cu+1)%(X.S.g.B+3) }:Sb).cells B.c) E rfl rfl rfl ?_;obtain⟨G,t,H⟩:=C2.Bin j E { s with st:=s.st+1,cu:=(s.cu+1)%(X.S.g.B+3) };generalize h2.put q (.cells (({ s with st:=s.st+1,cu:=(s.cu+1)%(X.S.g.B+3) }:Sb).cells B.c) 146)=h3 at G t H⊢
 try simp only[Aa]
 refine Ok.st (({ s with st:=s.st+1,cu:=(s.cu+1)%(X.S.g.B+3),be:=be }:Sb).cells B.c) t rfl rfl rfl ?_;obtain⟨J,u,L⟩:=G.Bin j t { s with st:=s.st+1,cu:=(s.cu+1)%(X.S.g.B+3),be:=be };generalize h3.put q (.cells (({ s with st:=s.st+1,cu:=(s.cu+1)%(X.S.g.B+3),be:=be }:Sb).cells B.c) 146)=h4 at J u L⊢
 try simp only[Aa]
 refine Ok.st (({ s with st:=s.st+1,cu:=(s.cu+1)%(X.S.g.B+3),be:=be,ba:=ba }:Sb).cells B.c) u rfl rfl rfl ?_;obtain⟨M,y,O⟩:=J.Bin j u { s with st:=s.st+1,cu:=(s.cu+1)%(X.S.g.B+3),be:=be,ba:=ba };generalize h4.put q (.cells (({ s with st:=s.st+1,cu:=(s.cu+1)%(X.S.g.B+3),be:=be,ba:=ba }:Sb).cells B.c) 146)=h5 at M y O⊢
 try simp only[Aa]
 refine Ok.st (({ s with st:=s.st+1,cu:=(s.cu+1)%(X.S.g.B+3),be:=be,ba:=ba,de:=de }:Sb).cells B.c) y rfl rfl rfl ?_;obtain⟨n,f,Q⟩:=M.Bin j y { s with st:=s.st+1,cu:=(s.cu+1)%(X.S.g.B+3),be:=be,ba:=ba,de:=de };generalize h5.put q (.cells (({ s with st:=s.st+1,cu:=(s.cu+1)%(X.S.g.B+3),be:=be,ba:=ba,de:=de }:Sb).cells B.c) 146)=h6 at n f Q⊢;have T:Au (fun i=>i=q) h h6:=((((D.trans (Ext.to o)).trans H).trans L).trans O).trans Q;cases ok with
 | false=>
  simp only[Aa,Aek];exact .ret ⟨rfl,n,f,T⟩
 | true=>
  have m:=n.hb _ _ f;simp only[Aa,Ar];rw[Gy m,Ah f rfl (v:=I be) rfl]
  try simp only[Aa,Ar]
  rw[Gy m,Ah f rfl (v:=I (s.st+1)) rfl]
  try simp only[Aa,Ar]
  rw[Aw (l:=[I be,I (s.st+1)]) rfl,Gh];refine Ok.st ((s.next X.S.g.B true de be ba).cells B.c) f rfl rfl rfl ?_;obtain⟨C7,g7,x7⟩:=n.Bin j f (s.next X.S.g.B true de be ba);exact .ret ⟨rfl,C7,g7,T.trans x7⟩
end
end
section
def Ur(P:Int->Prop)(h:Ab)(B:Cb)(X:Co)(F:Nat->Prop)(q:Nat)(s:Sb)(be:Int):EV->Ab->Prop:=fun v h'=>
 ∃(ok:Bool) (e:Int) (Y:Co) (s':Sb),v=.tuple [.bool ok,I e]/\Cu h' B Y F/\Ck X Y/\Au (fun i=>¬F i\/i=q) h h'/\Se h' q B.c s'/\P e /\
  ((e=34/\ok=false/\s'=s)\/(¬e=34/\∃(de:Bool) (ba:Int),s'=s.next X.S.g.B ok de be ba/\ok=(decide ((s.cu+1)%(X.S.g.B+3)=0)&&!de)))
theorem Ur.from {P:Int->Prop}{h0:Ab}{s:Sb}{be:Int}{v:EV}(c:Ex h0 h B X F Y)(a:Ur P h B Y F q s be v h'):Ur P h0 B X F q s be v h':=by
 obtain⟨ok,e,Z,s',rfl,b,k,x,g,p,w⟩:=a;have f:Y.S.g=X.S.g:=c.ck.g;rw[f]at w;exact⟨ok,e,Z,s',rfl,b,c.ck.trans k,(Au.mono c.k fun i y=>.inl y).trans x,g,p,w⟩
theorem Bm2 {a n:Int}(h0:0<=a)(b:a<n+3):decide ((a+1)%(n+3)=0)=decide (a+1=n+3):=by
 by_cases e:a+1=n+3
 ·rw[e,Int.emod_self];simp
 ·have:(a+1)%(n+3)=a+1:=Int.emod_eq_of_lt (by omega) (by omega)
  rw[this];simp only[e,aA];exact aK (by omega)
section
variable (A:Bw disp)(hK:10000<K){P:Int->Prop}{s:Sb}
include A hK
theorem step_end(c r:Ai)(C:Cu h B X F)(b:F q)(g:Se h q B.c s)(a:0<=s.cu)(c1:s.cu<X.S.g.B+3)(t0:0<=s.st)(t1:s.st<1000)(ok de:Bool)(f:P e)(he:¬e=34)(be ba:Int)(hok:ok=(decide (s.cu+1=X.S.g.B+3)&&!de)):
 Ok (On c r K (.ptr q 0) (.bool ok) (I e) (I be) (I ba) (.bool de) h) (Ur P h B X F q s be):=by
 refine Ok.mono (Bcb c r C b g a c1 t0 t1 ok de e be ba) ?_;rintro v h' ⟨rfl,j,k,x⟩;exact⟨ok,e,X,_,rfl,j,Ck.refl X,x.mono fun i y=>.inr y,k,f,.inr ⟨he,de,ba,rfl,by rw[Bm2 a c1];exact hok⟩⟩
theorem Bb3(C:Cu h B X F)(f:F q)(g:Se h q B.c s)(m:0<=s.cu)(c1:s.cu<X.S.g.B+3)(t0:0<=s.st)(t1:s.st<1000)(hd:15<=d)(de:Bool)(i:P 34)(n:P e)(he:¬e=34)(be ba:Int)(a:EV)
 (j:s.cu+1=X.S.g.B+3->a=.bool (!de)) :
 Ok (Og (Ag TT disp K d false) (Ag TT disp K d true) K (.ptr q 0) (I e) (I be) (I ba) (.bool de) (.bool (decide (s.cu+1=X.S.g.B+3))) a h) (Ur P h B X F q s be):=by
 have fin:=fun(ok:Bool) hok=>step_end A hK (Ag TT disp K d false) (Ag TT disp K d true) C f g m c1 t0 t1 ok de n he be ba hok
 by_cases b:s.cu+1=X.S.g.B+3
 ·rw[j b]
  simp only[b,aB,Aa,Og];cases de with
  | true=>
   simp only[eH,Aa,Kb];exact fin false (by simp)
  | false=>
   simp only[cp,Aa];rw[Ah g rfl rfl];refine Ok.Am (A3p A hK C (d:=d) hd) ?_;rintro _ h2 ⟨e2,Y,rfl,c2⟩;have o:Y.S.g=X.S.g:=c2.ck.g;simp only[I,Ac];by_cases k:e2=0
   ·simp only[k,aC,aA,Aa,Kb]
    refine Ok.mono (step_end A hK (Ag TT disp K d false) (Ag TT disp K d true) c2.C f (c2.sb C.hb f g) m (by rw[o];exact c1) t0 t1 true false n he be ba (by rw[o];simp[b])) ?_;exact fun v h'=>Ur.from c2
   ·simp only[k,aF,aB,Aa,Kb]
    exact .ret (Ur.from c2 ⟨false,34,Y,s,rfl,c2.C,Ck.refl Y,Au.refl _,c2.sb C.hb f g,i,.inl ⟨rfl,rfl,rfl⟩⟩)
 ·simp only[b,aA,Aa,Og,Kb]
  exact fin false (by simp[b])
theorem Atx(C:Cu h B X F)(u:F q)(g:Se h q B.c s)(E:0<=s.cu)(c1:s.cu<X.S.g.B+3)(t0:0<=s.st)(t1:s.st<1000)(hd:15<=d)(a b:Bool)(i:P 34)(G:P e)(he:¬e=34)(be ba:Int)(f:EV)(j:a=false->f=.bool b):
 Ok (U0 (Ag TT disp K d false) (Ag TT disp K d true) K (.ptr q 0) (I e) (I be) (I ba) (.bool a) f h) (Ur P h B X F q s be):=by
 have H:∀k:EV->R,pkO (.bool a) f k=k (.bool (a||b)):=by
  intro k;cases a with
  | true=>simp only[Aa,Bool.true_or]
  | false=>rw[j rfl];simp only[Aa,Bool.false_or]
 simp only[U0,H];generalize (a||b)=D;have L:=C.sm.b1;refine Ok.Am (Bbl (K:=K) C g E (by omega)) ?_;rintro _ h2 ⟨rfl,M⟩;have c2:=C.Xa M;have O:=c2.sb C.hb u g;have J:=fun m o=>(Bb3 A hK c2.C u O E c1 t0 t1 hd D i G he be ba m o).mono fun v h'=>Ur.from c2
 by_cases t:s.cu+1=X.S.g.B+3
 ·rw[aJ t]at J⊢
  have w:∀p r:R,wtE (.bool true) p r=p:=fun p r=>rfl
  have n:∀k:EV->R,Aq5 (.bool D) k=k (.bool (!D)):=fun k=>by cases D<;>rfl
  rw[w,n];exact J _ fun _=>rfl
 ·rw[aK t]at J⊢
  have w:∀p r:R,wtE (.bool false) p r=r:=fun p r=>rfl
  rw[w];exact J _ fun y=>absurd y t
end
end
section
variable (A:Bw disp)(hK:10000<K){P:Int->Prop}{s:Sb}
include A hK
theorem A2f(C:Cu h B X F)(j:F q)(g:Se h q B.c s)(o:0<=s.cu)(c1:s.cu<X.S.g.B+3)(t0:0<=s.st)(t1:s.st<1000)(hd:15<=d)(k m:Bool)(f:P 34)(p:P e)(he:¬e=34)(be ba:Int):
 Ok (Kk (Ag TT disp K d false) (Ag TT disp K d true) K (.ptr q 0) (I e) (.bool k) (I be) (I ba) (.bool m) h) (Ur P h B X F q s be):=by
 have D:=fun a b t u=>Atx A hK C j g o c1 t0 t1 hd a b f p he be ba t u
 have G:=C.sm.b1;have i:D6 (.tuple []) false=false/\D6 (.tuple []) true=false:=⟨rfl,rfl⟩;cases m with
 | true=>
  simp only[Kk,Aa,Oz,Kq,Kh,i,Ch];exact D true true _ fun y=>by cases y
 | false=>
  cases k with
  | false=>
   simp only[Kk,Aa,Oz,Kq,Kh,i,Ch];exact D true true _ fun y=>by cases y
  | true=>
   simp only[Kk,Aa,Oz,Ch];refine Ok.Am (Bbl (K:=K) C g o (by omega)) ?_;rintro _ h2 ⟨rfl,H⟩;have c2:=C.Xa H;have E:=c2.sb C.hb j g;cases decide (s.cu+1=X.S.g.B+3)with
   | false=>
    simp only[Aa,Kq,Kh,i,Ch];exact(Atx A hK c2.C j E o c1 t0 t1 hd false false f p he be ba _ fun _=>rfl).mono fun v h'=>Ur.from c2
   | true=>
    simp only[Aa,Kq,Ch];refine Ok.Am (A5t (K:=K) hK c2.C E) ?_;rintro _ M ⟨⟨n,rfl,n0,O⟩,J⟩;have c3:=c2.trans (c2.C.Xa J);have L:=c3.sb C.hb j g;simp only[I,Ac,Kh,Aa,Ch];exact(Atx A hK c3.C j L o c1 t0 t1 hd false _ f p he be ba _ fun _=>rfl).mono fun v h'=>Ur.from c3
theorem Bda(C:Cu h B X F)(i:F q)(g:Se h q B.c s)(j:0<=s.cu)(c1:s.cu<X.S.g.B+3)(t0:0<=s.st)(t1:s.st<1000)(hd:15<=d)(a:Bool)(b:P 34)(k:P e)(he:¬e=34)(n:Int):
 Ok (Ua (Ag TT disp K d false) (Ag TT disp K d true) K (.ptr q 0) (I e) (I n) (.bool a) h) (Ur P h B X F q s (if s.cu=0 then s.st+1 else s.be)):=by
 simp only[Ua,Aa];rw[Ah g rfl (v:=I s.be) rfl]
 try simp only[Aa]
 rw[Ah g rfl (v:=I s.ba) rfl]
 try simp only[Aa]
 rw[Ah g rfl (v:=.bool s.de) rfl]
 try simp only[Aa]
 rw[Ah g rfl (v:=I s.cu) rfl];simp only[I,Ac];by_cases f:s.cu=0
 ·rw[aQ f,aJ f]
  simp only[Aa];rw[Ah g rfl (v:=I s.st) rfl];simp only[I,Ac];rw[Cg];exact A2f A hK C i g j c1 t0 t1 hd a false b k he (s.st+1) n
 ·rw[aM f,aK f]
  simp only[Aa];exact A2f A hK C i g j c1 t0 t1 hd a s.de b k he s.be s.ba
theorem Ast(H27:disp 27=some (Acz F27))(C:Cu h B X F)(b:F q)(g:Se h q B.c s)(i:0<=s.cu)(c1:s.cu<X.S.g.B+3)(t0:0<=s.st)(t1:s.st<1000)(hd:31<=d)(cur:∀e,d-4<=e->Awh disp K e):
 Ok (Ag TT disp K d false 39 [.ptr q 0] h) (Ur (fun e=>X.S.dr.dv.down=true->e=34\/e=0/\s.cu<X.S.g.B/\¬(Aeu X.es s.cu).1.state=1) h B X F q s (if s.cu=0 then s.st+1 else s.be)):=by
 obtain⟨e,rfl⟩:∃k,d=k+1:=⟨d-1,by omega⟩;rw[Aqu A (by omega)];simp only[Ali];refine Ok.Am (A5t (K:=K) hK C g) ?_;rintro _ h2 ⟨⟨n,rfl,n0,t⟩,m⟩;have c2:=C.Xa m;have o:=c2.sb C.hb b g;refine Ok.Am (Bo1 A hK H27 c2.C b o (d:=e) (by omega) (fun k u=>cur k (by omega)) i c1) ?_;rintro _ y ⟨ok,e3,Y,rfl,f,dn⟩;have a:X.S.dr.dv.down=true->(34:Int)=34\/(34:Int)=0/\s.cu<X.S.g.B/\¬(Aeu X.es s.cu).1.state=1:=fun _=>.inl rfl
 have c3:=c2.trans f;have j:=c3.sb C.hb b g;have p:Y.S.g=X.S.g:=c3.ck.g;simp only[Aa,I,Ac];by_cases k:e3=34
 ·simp only[k,aB,Aa]
  exact .ret (Ur.from c3 ⟨false,34,Y,s,rfl,c3.C,Ck.refl Y,Au.refl _,j,a,.inl ⟨rfl,rfl,rfl⟩⟩)
 ·simp only[k,aA,Aa]
  exact(Bda A hK c3.C b j i (by rw[p];exact c1) t0 t1 (d:=e) (by omega) ok a dn k n).mono fun v h'=>Ur.from c3
end
end Go.Ev
