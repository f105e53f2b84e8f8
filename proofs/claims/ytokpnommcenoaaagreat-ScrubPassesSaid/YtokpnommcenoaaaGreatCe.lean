import Derived.Test.YtokpnommcenoaaaGreatCd
import Derived.Test.YtokpnommcenoaaaGreatDc
import Derived.Test.YtokpnommcenoaaaGreatVb
set_option linter.all false
namespace Go.Ev
open Go.Proofs
set_option maxRecDepth 100000
variable {g:Gm}{x:Me}{h h':Ab}{S:K4}{F:Nat->Prop}{e:Int}{B:Cb}{X Y:Co}{K d q:Nat}{disp:Nat->Option FT}
noncomputable def Mi.Ba0(cur Cv:Nat->Int)(S:Mi)(z:Int):Mi:=if A01 cur Cv z=true then S else S.Bem z
noncomputable def Mi.Akf(cur Cv:Nat->Int)(S:Mi):Nat->Mi
 | 0=>S
 | n+1=>(Mi.Akf cur Cv S n).Ba0 cur Cv n
theorem Bho(cur Cv:Nat->Int)(S:Mi)(z:Int):(S.Ba0 cur Cv z).bad=S.bad/\(S.Ba0 cur Cv z).g=S.g/\(S.Ba0 cur Cv z).dr=S.dr:=by
 unfold Mi.Ba0;split<;>exact⟨rfl,rfl,rfl⟩
theorem Akr(cur Cv:Nat->Int)(S:Mi):∀n,(S.Akf cur Cv n).bad=S.bad/\(S.Akf cur Cv n).g=S.g/\(S.Akf cur Cv n).dr=S.dr
 | 0=>⟨rfl,rfl,rfl⟩
 | n+1=>by
  obtain⟨a,b,c⟩:=Bho cur Cv (S.Akf cur Cv n) n;obtain⟨d,e,f⟩:=Akr cur Cv S n;exact⟨a.trans d,b.trans e,c.trans f⟩
def Vi(g:Gm):Nat->Int:=Ol (Ol (Ol (fun _=>-1) 0 0) 1 g.Z) 2 (2*g.Z)
def Vg(g:Gm):Nat->Int:=Ol (Ol (Ol (fun _=>-1) 0 1) 1 (g.Z+1)) 2 (2*g.Z+1)
noncomputable def Co.start(g:Gm):Co:=⟨(Mi.new g).Akf (Vi g) (Vg g) (g.D*g.Z).toNat,Vi g,Vg g,List.replicate g.B.toNat (Me.nil 0),0,1,1,false⟩
theorem Brw(a:rtB g=true):g.P+3<=g.Z:=by
 have s:=Uy a;have h:2*g.B<=g.S*g.segments:=by
  unfold rtB at a;simp only[bL,bM]at a;exact a.2.2
 have:=s.b0;have:=s.s0;have:=s.d0;have:=s.p0;have b:1<=g.segments:=by
  rcases Int.lt_or_le 0 g.segments with y|y
  ·omega
  ·have:g.S*g.segments<=g.S*0:=eA y (by omega)
   omega
 by_cases f:g.P+3<=g.Z
 ·exact f
 ·exfalso
  unfold Gm.segments at b;have u0:(g.D-1)*(g.Z-g.P-2)<=0:=Int.mul_nonpos_of_nonneg_of_nonpos (by omega) (by omega);have dp:0<=g.D*g.P:=Int.mul_nonneg (by omega) (by omega);have h2:g.least<=(g.D-1)*(g.Z-g.P-2)-g.Al6+1:=Int.min_le_left _ _;unfold Gm.Al6 at h2;omega
theorem Aje(s:Sm g){i:Nat}{k:Int}(f:(i:Int)<g.D)(a:0<=k)(b:k<g.Z):Ex g (i*g.Z+k)=i:=by
 have:=s.z0;have j:(0:Int)<=i*g.Z:=Int.mul_nonneg (by omega) (by omega);have h2:(i:Int)*g.Z+g.Z<=g.D*g.Z:=by
  have:((i:Int)+1)*g.Z<=g.D*g.Z:=Int.mul_le_mul_of_nonneg_right (by omega) (by omega);rw[Int.add_mul,Int.one_mul]at this;exact this
 unfold Ex;rw[aM (by omega),Int.add_comm,Int.add_mul_ediv_right _ _ (by omega),Int.ediv_eq_zero_of_lt a b,Int.zero_add]
theorem Ban {m a b:Nat}{x y z:Int}(h:Ab):Ao9 K (.ptr m 0) (.ptr a 0) (.ptr b 0) (.agg [I x,I y,I z]) h=some (.ptr (h.next+1) 0,(h.new (.cells [I x,I y,I z] 104)).new (.cells [.ptr m 0,.ptr a 0,.ptr b 0,I x,I y,I z,.bool false] 130)):=by
 simp only[Ao9,Aa];rw[Cz (Ad _ _) rfl,Aj (n:=3) rfl]
 try simp only[Aa]
 rw[Aw (l:=[.ptr m 0,.ptr a 0,.ptr b 0,I x,I y,I z,.bool false]) rfl]
 try simp only[Aa]
 rfl
theorem Co.Bkq(a:rtB g=true):(Co.start g).Wf:=by
 have s:=Uy a;have m:=Brw a;have:=s.d0;have:=s.p0;have:=s.z0;have:=s.s0;obtain⟨_,e2,e3⟩:=Akr (Vi g) (Vg g) (Mi.new g) (g.D*g.Z).toNat;have b:(Co.start g).S.g=g:=e2;have d0:=Aje s (i:=0) (k:=0) (by omega) (by omega) (by omega);have d1:=Aje s (i:=1) (k:=0) (by omega) (by omega) (by omega);have d2:=Aje s (i:=2) (k:=0) (by omega) (by omega) (by omega);have o0:=Aje s (i:=0) (k:=1) (by omega) (by omega) (by omega);have o1:=Aje s (i:=1) (k:=1) (by omega) (by omega) (by omega);have f:=Aje s (i:=2) (k:=1) (by omega) (by omega) (by omega);refine⟨by rw[b];exact a,⟨fun i j=>.inr ?_,fun i j=>.inr ?_⟩,?_⟩
 ·rw[b]
  rcases(show i=0\/i=1\/i=2 by omega)with rfl|rfl|rfl
  ·rw[<-d0];congr 1;show(0:Int)=_;omega
  ·rw[<-d1];congr 1;show g.Z=_;omega
  ·rw[<-d2];congr 1;show 2*g.Z=_;omega
 ·rw[b]
  rcases(show i=0\/i=1\/i=2 by omega)with rfl|rfl|rfl
  ·rw[<-o0];congr 1;show(1:Int)=_;omega
  ·rw[<-o1];congr 1;show g.Z+1=_;omega
  ·rw[<-f];congr 1
 ·show 0<(Co.start g).S.dr.dv.size
  rw[show(Co.start g).S.dr=(Mi.new g).dr from e3];show 0<g.S.toNat;omega
def z8(b:Nat):EV:=.int .u8 (Int.ofNat b)
theorem Bdd {b:Nat}{v2 v3:Nat}(n23:v2≠v3):∀(m i:Nat) (h:Ab),32-i<m->i<=32->HB h->h.get v2=some (.cells (List.replicate 32 (z8 0)) 85)->h.get v3=some (.cells (List.replicate i (z8 b)++List.replicate (32-i) (z8 0)) 85) ->
 Ok (Vn K m (z8 b) (.ptr v2 0) (.ptr v3 0) (I i) h) fun v h'=>v=.agg (List.replicate 32 (z8 b))/\As (fun j=>j=v2\/j=v3) h h'/\HB h':=by
 intro m;induction m with
 | zero=>intro i h hm;omega
 | succ m u=>
  intro i h hm C hb g2 a;rw[Vn];simp only[I,Ac,Aa];by_cases f:i<32
  ·have:decide ((i:Int)<32)=true:=by simp;omega
   simp only[this,Aa,Ast];rw[Oy f];simp only[Aa,bk];have p:=hb _ _ a;refine Ok.st1 a rfl rfl (by simp;omega) ?_;simp only[Atd,Ac];rw[Ci,show((i:Nat):Int)+1=((i+1:Nat):Int) by omega];have y:((List.replicate i (z8 b)++List.replicate (32-i) (z8 0)).set i (z8 b))=List.replicate (i+1) (z8 b)++List.replicate (32-(i+1)) (z8 0):=by
    rw[eK _ _ (by simp),bT,fS,show 32-i=(32-(i+1))+1 by omega,eF,List.set_cons_zero,List.replicate_succ',b9];rfl
   rw[y];refine(u (i+1) _ (by omega) (by omega) (hb.put p _) (by rw[Ae _ (cT n23)];exact g2) (Af _ _ _)).mono ?_;rintro v h' ⟨rfl,c,k⟩;exact⟨rfl,((As.refl (S:=fun j=>j=v2\/j=v3) h).Ao (.inl (.inr rfl)) p _).trans c,k⟩
  ·have:decide ((i:Int)<32)=false:=by simp;omega
   have o:i=32:=by omega
   subst o;simp only[this,Aa,As4];rw[Cz a rfl,Aj (n:=32) (by simp)];simp only[Aa];have t:=hb _ _ g2;refine Ok.st (List.replicate 32 (z8 b)) g2 rfl rfl (Bl rfl) ?_;rw[Q6 (Af _ _ _) Asi.1 Asi.2 rfl];exact .ret ⟨rfl,(As.refl (S:=fun j=>j=v2\/j=v3) h).Ao (.inl (.inl rfl)) t _,hb.put t _⟩
theorem Bmz(hK:100<K)(b:Nat)(hb:HB h):Ok (Amn K (z8 b) h) fun v h'=>v=.agg (Bj (List.replicate 32 b))/\Ext h h'/\HB h':=by
 simp only[Amn,Aa];rw[show(h.new (.cells (List.replicate 32 (EV.int .u8 0)) 85)).next=h.next+1 from rfl];have j:Ext h ((h.new (.cells (List.replicate 32 (EV.int .u8 0)) 85)).new (.cells (List.replicate 32 (EV.int .u8 0)) 85)):=(As.new _ _).Da _;have g2:((h.new (.cells (List.replicate 32 (EV.int .u8 0)) 85)).new (.cells (List.replicate 32 (EV.int .u8 0)) 85)).get h.next=some (.cells (List.replicate 32 (z8 0)) 85):=by
  rw[Az _ (aR _)];exact Ad _ _
 have k:((h.new (.cells (List.replicate 32 (EV.int .u8 0)) 85)).new (.cells (List.replicate 32 (EV.int .u8 0)) 85)).get (h.next+1)=some (.cells (List.replicate 0 (z8 b)++List.replicate (32-0) (z8 0)) 85):=Ad _ _;refine(Bdd (K:=K) (b:=b) (v2:=h.next) (v3:=h.next+1) (by omega) K 0 _ (by omega) (by omega) (j.hb hb) g2 k).mono ?_;rintro v h' ⟨rfl,c,a⟩;refine⟨?_,j.then c fun i f m=>?_,a⟩
 ·unfold Bj;rw[fU];rfl
 ·rcases f with f|f<;>omega
structure Bkp where
 kind:Int
 x:Int
 y:Int
 bl:EV
 bq:Nat
 bs:List Int
 ev:Lo
def Bkp.cells(o:Bkp):List EV:=[I o.kind,I o.x,I o.y,o.bl]++o.ev.cells
theorem Bkp.len {o:Bkp}(w:o.ev.Wf):o.cells.length=72:=by
 unfold Bkp.cells;rw[aG,Lo.Ba w];rfl
def wb(n:Int):Nat:=(n%256).toNat
theorem Buk(n:Int):wb n<256:=by unfold wb;omega
theorem Bsl(a:Int){bl:List Nat}(b:bl.length=32):Abp (Df [(0,1),(1,32)]) [(0,I a),(1,.agg (Bj bl))] ([EV.int .i64 0]++List.replicate 32 (.int .u8 0))=some (⟨a,bl⟩:Wr).cells:=by
 have hs:=Ak4 [I a] (List.replicate 32 (EV.int .u8 0)) (Bj bl) (by rw[Bg,b];simp);rw[<-Vq]at hs;show Ax (Nat.beq (Fl (Bj bl)) 32) (oB (fun z=>some z) (Mq ([I a]++List.replicate 32 (EV.int .u8 0)) 1 (Bj bl))) none=_;rw[Bf,Bg,b,cI,Ak];rw[show(1:Nat) = [I a].length from rfl,hs];rfl
def Mi.evs(S:Mi):Nat:=S.dr.ev.length+S.dr.Pu.length
structure Bvd(h h':Ab)(B:Cb)(X:Co)(F:Nat->Prop)(Y:Co):Prop where
 C:Cy h' B Y F
 k:Kf F h h'
 g:Y.S.g=X.S.g
 ev:Y.S.evs<=X.S.evs+1
theorem Boy(A:By disp)(b:disp 105=some Bbl)(hK:10000<K){m:Nat}{S:Mi}(M:Dd h m S F)(hb:HB h){e:Lo}(w:e.Wf)(j:S.evs<=199):
 ∃D,Bn K (.ptr m 0) h=some (.ptr D 0,h)/\∀{d:Nat},2<=d->Ok (Ag TT disp K d false 46 [.ptr D 0,.agg e.cells] h) fun _ h'=>∃l:List Lo,l.length<=S.dr.ev.length+1/\Dd h' m { S with dr:={ S.dr with ev:=l } } F/\Kf F h h'/\HB h':=by
 obtain⟨lt,D,p,bl,ql,np,q,c,G,a⟩:=M.s;refine⟨D,Qu a.Hi,fun hd=>?_⟩;refine(A9o A b hK hd a.drv hb w j).mono ?_;rintro _ h' ⟨l,f,k,n,i⟩;obtain⟨o,t⟩:=M.drv hb a k n;exact⟨l,f,o,t,i⟩
theorem Cy.Bq2(C:Cy h B X F){l:List Lo}(f:l.length<=X.S.dr.ev.length+1)(b:Dd h' B.m { X.S with dr:={ X.S.dr with ev:=l } } (B.fr F))(k:Kf (B.fr F) h h')(a:HB h'):Bvd h h' B X F { X with S:={ X.S with dr:={ X.S.dr with ev:=l } } }:=by
 refine⟨⟨b,k.at C.hb C.core (.inr (.inl rfl)),k.at C.hb C.ar (.inr (.inr (.inl rfl))),?_,⟨C.wf.rt,C.wf.an.of rfl,C.wf.sz⟩,C.out,a⟩,k.less fun _=>.inl,rfl,?_⟩
 ·exact C.map.frame (k.get _ (C.hb _ _ C.map.map) fun y=>y (.inr (.inr (.inr (.inl rfl))))) (k.get _ (C.hb _ _ C.map.row) fun y=>y (.inr (.inr (.inr (.inr (.inl rfl)))))) (k.get _ (C.hb _ _ C.map.live) fun y=>y (.inr (.inr (.inr (.inr (.inr rfl))))))
 ·show l.length+X.S.dr.Pu.length<=X.S.dr.ev.length+X.S.dr.Pu.length+1
  omega
section
structure Sb where
 cu:Int
 de:Bool
 st:Int
 be:Int
 ba:Int
 l0:Int
 l1:Int
def Sb.cells(s:Sb)(c:Nat):List EV:=[.ptr c 0,I s.cu,.bool s.de,I s.st,I s.be,I s.ba,I s.l0,I s.l1]
abbrev Ri(h:Ab)(q c:Nat)(s:Sb):Prop:=h.get q=some (.cells (s.cells c) 146)
section
variable{s:Sb}
theorem A52(g:Ri h q B.c s):Lu K (.ptr q 0) h=some (I s.cu,h):=by
 simp only[Lu,Aa];rw[Ah g rfl rfl]
theorem A9c(g:Ri h q B.c s):Nl K (.ptr q 0) h=some (I s.st,h):=by
 simp only[Nl,Aa];rw[Ah g rfl rfl]
theorem Bj0(g:Ri h q B.c s):Py K (.ptr q 0) h=some (.bool s.de,h):=by
 simp only[Py,Aa];rw[Ah g rfl rfl]
theorem Bpf(g:Ri h q B.c s):T1 K (.ptr q 0) h=some (.tuple [I s.l0,I s.l1],h):=by
 simp only[T1,Aa];have e0:∀k:EV->R,Ap9 2 1 (.ptr q 6) (.int .i64 0) k=k (.ptr q 6):=fun k=>Oy (j:=0) (ln:=2) (by omega)
 have e1:∀k:EV->R,Ap9 2 1 (.ptr q 6) (.int .i64 1) k=k (.ptr q 7):=fun k=>Oy (j:=1) (ln:=2) (by omega)
 simp only[e0,e1,bF];rw[Ah g rfl rfl,Ah g rfl rfl]
theorem A9w {n:Nat}(E:X.S.g.D*X.S.g.Z=n):∀(f i:Nat) (t:Int) (h:Ab),n-i<f->i<=n->0<=t->t<=i->Cy h B X F->Ri h q B.c s ->
 Ok (Im K f (.ptr q 0) (I t) (I n) (I i) h) fun v h'=>(∃j,v=I j/\0<=j/\j<=n)/\Ext h h':=by
 intro f;induction f with
 | zero=>intro i t h p;omega
 | succ f m=>
  intro i t h p G t0 t1 C g;have bd:=C.sm.Ag4;rw[Im];simp only[I,Ac];by_cases u:i<n
  ·have:decide ((i:Int)<(n:Int))=true:=by simp;omega
   simp only[this,Aa,Z7];rw[Ah g rfl rfl];simp only[Du,Aa];rw[C.ldM]
   try simp only[Aa]
   refine(Je (K:=K) C.M.s C.hb (z:=i) ⟨by omega,by omega⟩).Am ?_;rintro _ h2 ⟨rfl,b⟩;have o:=(C.Yx b).C;have g2:=b.at C.hb g;cases X.S.Jt i with
   | true=>
    simp only[Aa,Rh,I,Ac];rw[Ci,Ci,show((i:Nat):Int)+1=((i+1:Nat):Int) by omega];refine(m (i+1) (t+1) h2 (by omega) (by omega) (by omega) (by omega) o g2).mono ?_;rintro v y ⟨a,k⟩;exact⟨a,b.trans k⟩
   | false=>
    simp only[Aa,Rh,I,Ac];rw[Ci,show((i:Nat):Int)+1=((i+1:Nat):Int) by omega];refine(m (i+1) t h2 (by omega) (by omega) (by omega) (by omega) o g2).mono ?_;rintro v y ⟨a,k⟩;exact⟨a,b.trans k⟩
  ·have:decide ((i:Int)<(n:Int))=false:=by simp;omega
   simp only[this,Aa,Aaa];exact .ret ⟨⟨t,rfl,t0,by omega⟩,As.refl _⟩
theorem A4r(hK:10000<K)(C:Cy h B X F)(g:Ri h q B.c s):Ok (L2 K (.ptr q 0) h) fun v h'=>(∃f,v=I f/\0<=f/\f<=512)/\Ext h h':=by
 simp only[L2,Aa];rw[Ah g rfl rfl];simp only[Gn,Aa];rw[C.ldB];refine(Ig (K:=K) C.map C.hb).Am ?_;rintro _ h2 ⟨rfl,j,k⟩;rw[N2 C.sm,Aq];have x:Ext h (h2.new (.cells (gL X.S.g) 23)):=j.Da _;have bd:=C.sm.Ag4;obtain⟨n,i⟩:=aZ (show 0<=X.S.g.D*X.S.g.Z by omega);rw[i];refine(A9w i K 0 0 _ (by omega) (by omega) (by omega) (by omega) (C.Yx x).C (x.at C.hb g)).mono ?_;rintro v o ⟨⟨t,e,a,b⟩,m⟩;exact⟨⟨t,e,a,by omega⟩,x.trans m⟩
theorem Baf(C:Cy h B X F)(g:Ri h q B.c s)(b0:0<=s.cu)(b1:s.cu<1000):Ok (N3 K (.ptr q 0) h) fun v h'=>v=.bool (decide (s.cu+1=X.S.g.B+3))/\Ext h h':=by
 have sb:=C.sm.b0;have a:=C.sm.b1;simp only[N3,Aa,Ar];have lq:=C.hb _ _ g;rw[G2 lq,Ah g rfl rfl]
 try simp only[Aa,Ar,I,Ac]
 rw[G2 lq,Ah g rfl rfl]
 try simp only[Aa,Ar]
 rw[Af2 (v:=.ptr B.b 0) (by simp only[Gn,Aa];rw[C.lift.ldB])];refine Ok.bE (Ig (K:=K) C.lift.map C.lift.hb) (fun _ _ p=>p.2.1) ?_;rintro _ j h2 ⟨rfl,k,f⟩ sm i;simp only[gV,gL,Aa,I,Ac];rw[Ci,Ci];exact .ret ⟨rfl,i⟩
end
end
section
def V7(x:R)(h:Ab)(B:Cb)(X:Co)(F:Nat->Prop)(P:Bool->Int->Co->Prop):Prop:=Ok x fun v h'=>∃(b:Bool) (e:Int) (Y:Co),v=.tuple [.bool b,I e]/\E0 h h' B X F Y/\P b e Y
theorem V7.ret{b:Bool}{P:Bool->Int->Co->Prop}(c:E0 h h' B X F Y)(p:P b e Y):V7 (some (.tuple [.bool b,.int .i64 e],h')) h B X F P:=Ok.ret ⟨b,e,Y,rfl,c,p⟩
theorem V7.from {x:R}{f:Ab}{P:Bool->Int->Co->Prop}(c:E0 h f B X F Y)(a:V7 x f B Y F P):V7 x h B X F P:=by
 refine Ok.mono a ?_;rintro v h' ⟨b,e,Z,r,c2,p⟩;exact⟨b,e,Z,r,c.trans c2,p⟩
theorem Ba1(h:S.dv.down=true):S.due=S:=by
 obtain⟨D,ev,Pu⟩:=S;unfold K4.due;cases ev with
 | nil=>rfl
 | cons e r=>
  show Azt (e::r) D Pu=_;unfold Azt;rw[aQ (.inl h)]
theorem Bcz(h:S.dv.down=true)(z:Int):S.begin z=S:=by
 unfold K4.begin;split
 ·exact Ba1 h
 ·rfl
theorem A5v(h:S.dv.down=true)(z off:Int):(S.read z off).2.2=34/\(S.read z off).1.dv.down=true:=by
 unfold K4.read;rw[Bcz h];have e:S.dv.Er z=34:=by unfold Dv.Er;rw[aQ h]
 refine⟨?_,?_⟩
 ·show(S.dv.read z off).2=34
  unfold Dv.read;rw[e];rfl
 ·show(S.dv.begin z).down=true
  unfold Dv.begin;split<;>exact h
theorem Bec(h:S.dv.down=true):S.flush.2=34:=by
 unfold K4.flush;rw[Ba1 h];show(S.dv.flush).2=34;unfold Dv.flush;rw[aQ h]
theorem Be5 {S:Mi}(a:Aj8 S.g x=true)(h:S.dr.dv.down=true):(S.check x).2.2.2=34:=by
 have c:(S.Dz x x.An x.Bv).2.2.2=34:=by
  unfold Mi.Dz;rw[(A5v h _ _).1];rfl
 unfold Mi.check;rw[aM (by rw[a];decide),aQ (by rw[c];decide)];exact c
theorem Bn4(m:meR g x=true)(h:x.state=1):Aj8 g x=true:=by
 unfold meR at m;rw[aM (by omega),aQ h]at m;unfold Aj8;rw[m,aJ h];rfl
theorem E0.sb{s:Sb}(c:E0 h h' B X F Y)(hb:HB h)(fq:F q)(g:Ri h q B.c s):Ri h' q B.c s:=by
 show h'.get q=_;rw[c.k.get _ (hb _ _ g) fun w=>w fq];exact g
section
variable (A:By disp)(hK:10000<K){s:Sb}
include A hK
theorem Bb4 {P:Bool->Int->Co->Prop}(a:∀b e Y,P b e Y)(C:Cy h B X F)(g:Ri h q B.c s)(hd:28<=d)(j:Int):V7 (S8 (Ag TT disp K d false) (Ag TT disp K d true) K (.ptr q 0) (I j) h) h B X F P:=by
 simp only[S8,Aa];rw[Ah g rfl rfl];refine Ok.Am (Axp A hK C hd j) ?_;rintro _ h2 ⟨e,Y,rfl,c⟩;exact V7.ret c (a _ _ _)
theorem Bae {P:Bool->Int->Co->Prop}(a:∀b e Y,P b e Y)(C:Cy h B X F)(g:Ri h q B.c s)(hd:28<=d)(j n:Int):V7 (Sw (Ag TT disp K d false) (Ag TT disp K d true) K (.ptr q 0) (I j) (I n) h) h B X F P:=by
 simp only[Sw,I,Ac];by_cases f:n=2
 ·simp only[f,aB,Aa]
  exact V7.ret (E0.refl C) (a _ _ _)
 ·simp only[f,aA,Aa]
  exact Bb4 A hK a C g hd j
theorem Bah(C:Cy h B X F)(fq:F q)(g:Ri h q B.c s)(hd:28<=d){v6:Nat}(i:h.get v6=some (.cells x.cells 53))(r:Rs x.An/\Rs x.Bv)(k:Aj8 X.S.g x=true)(j:Int):
 V7 (Sr (Ag TT disp K d false) (Ag TT disp K d true) K (.ptr q 0) (I j) (.ptr v6 0) h) h B X F fun _ e _=>X.S.dr.dv.down=true->e=34:=by
 have lq:=C.hb _ _ g;have o:=C.hb _ _ i;simp only[Sr,Aa,Ar];rw[G2 lq,Ah g rfl rfl]
 try simp only[Aa,Ar]
 rw[Af2 (v:=.ptr B.m 0) (by simp only[Du,Aa];rw[C.lift.ldM])]
 try simp only[Aa,Ar]
 rw[G2 o,Cp i rfl (Aj (n:=6) rfl)]
 try simp only[Aa,Ar]
 refine Ok.bC (S:=fun j=>¬B.fr F j) (A5g A hK (d:=d) (by omega) C.lift.M C.lift.hb r.1 r.2) (fun _ _ p=>p.2.2.2.1) ?_;rintro _ t h2 s' ⟨rfl,a,u,_,b⟩ sm y f;have c2:=C.Hi (u.same sm) y (sm.hb b) (Ba3 _ x);have dn:=Be5 (S:=X.S) k;generalize X.S.check x=P at c2 a dn⊢;obtain⟨S',bl,n,D⟩:=P;simp only at c2 a dn⊢;generalize ({ X with S:=S' }:Co)=Y at c2⊢;have ul:(Bj bl).length=32:=by rw[Bg,a]
 simp only[Aa];rw[Gt (by rcases f with rfl|⟨w,rfl,_⟩<;>kernel_rfl)];refine Ok.st (Bj bl) (Ad _ _) rfl (by show Fl (Bj bl)=32;rw[Bf,ul]) (Bl (by rw[bT];exact ul.symm)) ?_;obtain⟨H,E,G,_,_⟩:=nP h2 (.cells (List.replicate 32 (EV.int .u8 0)) 85) (.cells (Bj bl) 85);rw[E];have c3:=c2.trans (c2.C.Yx G);simp only[I,Ac];by_cases h0:D=34
 ·simp only[h0,aB,Aa]
  exact V7.ret c3 fun _=>rfl
 ·simp only[h0,aA,Aa]
  exact V7.from c3 (Bae A hK (fun _ _ _ d=>absurd (dn d) h0) c3.C (c3.sb C.hb fq g) hd j n)
theorem Bns(C:Cy h B X F)(fq:F q)(g:Ri h q B.c s)(hd:29<=d)(j:Int):V7 (Ag TT disp K d false 151 [.ptr q 0,I j] h) h B X F fun _ e _=>X.S.dr.dv.down=true->e=34\/e=0/\¬(Ajq X.es j).1.state=1:=by
 obtain⟨e,rfl⟩:∃k,d=k+1:=⟨d-1,by omega⟩;rw[Aof A (by omega)];simp only[Aji,Aa];rw[Ah g rfl rfl];simp only[Gn,Aa];rw[C.ldB]
 try simp only[Aa]
 refine(Wj (K:=K) C.sm C.map C.hb j).Am ?_;rintro _ h2 ⟨rfl,f⟩;have c2:=C.Yx f;have rg:=A8j C.sm (A23 C.map.ok j);have hm:=A23 C.map.ok j;generalize Ajq X.es j=P at rg hm⊢;obtain⟨x,n⟩:=P;simp only[Aa];refine Ok.mk rfl rfl fun m i e3 _=>?_
 have c3:=c2.trans (c2.C.Yx i);rw[Ah e3 rfl (v:=I x.state) rfl];simp only[I,Ac];by_cases a:x.state=1
 ·simp only[a,aC,aA,Aa]
  refine(V7.from c3 (Bah A hK c3.C fq (c3.sb C.hb fq g) (d:=e) (by omega) e3 rg (Bn4 hm a) j)).mono ?_;rintro v h' ⟨b,e,Y,r,c,p⟩;exact⟨b,e,Y,r,c,fun d=>.inl (p d)⟩
 ·simp only[a,aE,aB,Aa]
  exact V7.ret c3 fun _=>.inr ⟨rfl,by first|exact a|trivial⟩
end
end
section
def Awd(disp:Nat->Option FT)(K d:Nat):Prop:=∀{h:Ab} {B:Cb} {X:Co} {F:Nat->Prop} {q:Nat} {s:Sb},Cy h B X F->F q->Ri h q B.c s->∀j:Int,0<=j->j<3->V7 (Ag TT disp K d false 202 [.ptr q 0,I j] h) h B X F fun b e Y=>X.S.dr.dv.down=true->Y.S.dr.dv.down=true/\(e=34\/b=false/\e=0)
theorem Co.Bko{d:Int}(h0:0<=d*X.S.g.Z):∀j:Nat,-1<=X.few d j/\X.few d j<=d*X.S.g.Z+j
 | 0=>⟨by show(-1:Int)<=-1;omega,by show(-1:Int)<=_;omega⟩
 | j+1=>by
  obtain⟨a,b⟩:=Co.Bko h0 j;rw[Co.few];split
  ·exact⟨by omega,by omega⟩
  ·exact⟨a,by omega⟩
theorem Bd7(sm:Sm X.S.g){d:Int}:Rs (X.Ajt d):=by
 have:=sm.d0;have:=sm.d1;have:=sm.z0;have:=sm.z1;unfold Co.Ajt;split
 ·rename_i hd
  obtain⟨f,i⟩:=Oi (a:=d) (b:=X.S.g.Z) (A:=8) (B:=64) (by omega) (by omega) (by omega) (by omega);obtain⟨a,b⟩:=Co.Bko (X:=X) f X.S.g.Z.toNat;exact⟨by omega,by omega⟩
 ·exact⟨by omega,by omega⟩
section
variable (A:By disp)(hK:10000<K)(H27:disp 27=some (Ac4 F27)){s:Sb}
include A hK
theorem Bel(C:Cy h B X F)(g:Ri h q B.c s)(hd:21<=d):Eb (Uv (Ag TT disp K d false) (Ag TT disp K d true) K (.ptr q 0) h) h B X F:=by
 simp only[Uv,Aa];rw[Ah g rfl rfl];refine Ok.Am (Og A hK C hd) ?_;rintro _ h2 ⟨e,Y,rfl,c⟩;exact Eb.ret c
theorem Bei(C:Cy h B X F)(fq:F q)(g:Ri h q B.c s)(hd:24<=d){z:Int}(a:Rs z):Eb (Uq (Ag TT disp K d false) (Ag TT disp K d true) K (.ptr q 0) (I z) h) h B X F:=by
 simp only[Uq,Aa];rw[Ah g rfl rfl];refine Ok.Am (A5s A hK C hd a) ?_;rintro _ h2 ⟨e,Y,rfl,c⟩;simp only[I,Ac];by_cases h0:e=0
 ·simp only[h0,aC,aA,Aa]
  exact Eb.from c (Bel A hK c.C (c.sb C.hb fq g) (by omega))
 ·simp only[h0,aE,aB,Aa]
  exact Eb.ret c
include H27
omit H27 in
theorem Az5(C:Cy h B X F)(dn:X.S.dr.dv.down=true)(hd:21<=d):Ok (Ag TT disp K d false 73 [.ptr B.c 0] h) fun v h'=>v=I 34/\∃Y,E0 h h' B X F Y:=by
 obtain⟨e,rfl⟩:∃k,d=k+1:=⟨d-1,by omega⟩;rw[Vj A (by omega)];simp only[Ss,Aa];rw[C.ldM];obtain⟨D,V,dr⟩:=Aiu A hK C.M C.hb;rw[dr.Dc];refine Ok.Am (dr.flush (d:=e) (by omega)) ?_;rintro v h' ⟨rfl,b,kf,a⟩;rw[Bec dn];simp only[I,Ac,show decide (¬(34:Int)=0)=true from rfl,Aa];exact .ret ⟨rfl,_,C.Hi b kf a (A3d (Ao3 _))⟩
omit H27 in
theorem Bg4(C:Cy h B X F)(g:Ri h q B.c s)(dn:X.S.dr.dv.down=true)(hd:25<=d)(j:Int):Ok (Ag TT disp K d false 203 [.ptr q 0,I j] h) fun v h'=>v=I 34/\∃Y,E0 h h' B X F Y:=by
 obtain⟨e,rfl⟩:∃k,d=k+1:=⟨d-1,by omega⟩;rw[Abn A (by omega)];simp only[Aah,Aa];rw[Ah g rfl rfl];refine Ok.Am (Az5 A hK C dn (d:=e) (by omega)) ?_;rintro _ h2 ⟨rfl,a,c2⟩;simp only[I,Ac,show decide (¬(34:Int)=0)=true from rfl,Aa];exact .ret ⟨rfl,a,c2⟩
theorem Brn(C:Cy h B X F)(fq:F q)(g:Ri h q B.c s)(hd:25<=d)(cur:Awd disp K (d-1))(j:Int)(n:0<=j)(o:j<3):Eb (Ag TT disp K d false 203 [.ptr q 0,I j] h) h B X F:=by
 obtain⟨e,rfl⟩:∃k,d=k+1:=⟨d-1,by omega⟩;rw[Abn A (by omega)];simp only[Aah,Aa];rw[Ah g rfl rfl];refine Ok.Am (Og A hK C (d:=e) (by omega)) ?_;rintro _ h2 ⟨e2,y,rfl,c2⟩;simp only[I,Ac];by_cases h0:e2=0
 case neg=>
  simp only[h0,aE,aB,Aa];exact Eb.ret c2
 simp only[h0,aC,aA,Aa,Ady];refine Ok.Am (cur c2.C fq (c2.sb C.hb fq g) j n o) ?_;rintro _ D ⟨ok,e3,b,rfl,a,_⟩;have c3:=c2.trans a;have p:=c3.sb C.hb fq g;simp only[Aa];rw[Ah p rfl rfl];refine Ok.Am (Bjc A (by omega) c3.C H27 (d:=j) (dp:=e) (by omega) (by omega)) ?_;rintro _ h4 ⟨rfl,t⟩;have c4:=c3.trans (c3.C.Yx t);have u:=c4.sb C.hb fq g;have f:Rs (b.Ajt j):=Bd7 c3.C.sm;generalize b.Ajt j=z at f⊢;have v:D6 (.tuple []) false=false/\D6 (.tuple []) true=false:=⟨rfl,rfl⟩;cases ok with
 | true=>
  simp only[Aa,O7,K3,I,Ac];exact Eb.ret c4
 | false=>
  simp only[Aa,I,Ac];by_cases i:e3=0
  ·simp only[i,aC,aA,Aa,O7,Ac]
   by_cases m:z = -1
   ·simp only[m,aB,Aa,K3]
    exact Eb.ret c4
   ·simp only[m,aA,Aa,K3]
    exact Eb.from c4 (Bei A hK c4.C fq u (d:=e) (by omega) f)
  ·simp only[i,aE,aB,Aa,O7,K3]
   exact Eb.ret c4
theorem Bpm(C:Cy h B X F)(fq:F q)(g:Ri h q B.c s)(hd:26<=d)(cur:∀e,d-2<=e->Awd disp K e)(j:Int)(f:0<=j)(i:j<3):V7 (Ag TT disp K d false 150 [.ptr q 0,I j] h) h B X F fun _ e _=>X.S.dr.dv.down=true->e=34:=by
 obtain⟨e,rfl⟩:∃k,d=k+1:=⟨d-1,by omega⟩;rw[Aqz A (by omega)];simp only[Ak9,Aa];refine Ok.Am (cur e (by omega) C fq g j f i) ?_;rintro _ h2 ⟨ok,e2,o,rfl,c2,dn⟩;have g2:=c2.sb C.hb fq g;have rest:V7 (Uk (Ag TT disp K e false) (Ag TT disp K e true) K (.ptr q 0) (I j) h2) h B X F fun _ e _=>X.S.dr.dv.down=true->e=34:=by
  simp only[Uk];by_cases a:X.S.dr.dv.down=true
  ·refine Ok.Am (Bg4 A hK c2.C g2 (dn a).1 (d:=e) (by omega) j) ?_
   rintro _ m ⟨rfl,n,c3⟩;exact V7.ret (c2.trans c3) fun _=>rfl
  refine Ok.Am (Brn A hK H27 c2.C fq g2 (d:=e) (by omega) (cur _ (by omega)) j f i) ?_;rintro _ m ⟨e3,n,rfl,c3⟩;exact V7.ret (c2.trans c3) fun y=>absurd y a
 cases ok with
 | true=>
  simp only[Aa,O5];exact V7.ret c2 fun y=>(dn y).2.elim id fun z=>by cases z.1
 | false=>
  simp only[Aa,I,Ac];by_cases b:e2=0
  ·simp only[b,aC,aA,Aa,O5]
   exact rest
  ·simp only[b,aE,aB,Aa,O5]
   exact V7.ret c2 fun y=>(dn y).2.elim id fun z=>absurd z.2 b
end
end
section
section
variable (A:By disp)(hK:10000<K)(H27:disp 27=some (Ac4 F27)){s:Sb}
include A hK H27
theorem Brg(C:Cy h B X F)(fq:F q)(g:Ri h q B.c s)(hd:30<=d)(cur:∀e,d-3<=e->Awd disp K e)(c0:0<=s.cu)(c1:s.cu<X.S.g.B+3):V7 (Ag TT disp K d false 86 [.ptr q 0] h) h B X F fun _ e _=>X.S.dr.dv.down=true->e=34\/e=0/\s.cu<X.S.g.B/\¬(Ajq X.es s.cu).1.state=1:=by
 obtain⟨e,rfl⟩:∃k,d=k+1:=⟨d-1,by omega⟩;have sb:=C.sm.b0;have b:=C.sm.b1;rw[Ap1 A (by omega)];simp only[Aka,Aa];rw[Ah g rfl rfl];simp only[Gn,Aa];rw[C.ldB]
 try simp only[Aa]
 refine(Ig (K:=K) C.map C.hb).Am ?_;rintro _ h2 ⟨rfl,f,i⟩;have c2:=C.Yx f;have g2:=c2.sb C.hb fq g;simp only[gV,gL,Aa,I,Ac];rw[Ah g2 rfl rfl];simp only[I,Ac];by_cases a:s.cu<X.S.g.B
 ·have:¬X.S.g.B<=s.cu:=by omega
  simp only[a,this,aB,aA,aC,Aa,Ad3];rw[Ah g2 rfl rfl];refine(Bns A hK c2.C fq g2 (d:=e) (by omega) s.cu).Am ?_;rintro _ j ⟨ok,e3,Y,rfl,c3,dn⟩;simp only[Aa];exact V7.ret (c2.trans c3) fun y=>(dn y).elim .inl fun z=>.inr ⟨z.1,by first|exact a|trivial,z.2⟩
 ·have:X.S.g.B<=s.cu:=by omega
  simp only[a,this,aB,aA,aE,Aa];rw[Ah g2 rfl rfl];simp only[I,Ac];rw[Ci];refine(Bpm A hK H27 c2.C fq g2 (d:=e) (by omega) (fun k m=>cur k (by omega)) (s.cu-X.S.g.B) (by omega) (by omega)).Am ?_;rintro _ j ⟨ok,e3,Y,rfl,c3,dn⟩;simp only[Aa];exact V7.ret (c2.trans c3) fun y=>.inl (dn y)
end
end
section
theorem Bub {b:Int}{T:Hj}{t:Nat}{a:Int}{k:EV->R}(hb:0<b)(f:0<=a):Ae8 (bin T .rem t) (.int .i64 a) (.int .i64 b) k=k (.int .i64 (a%b)):=by
 obtain⟨n,rfl⟩:=aZ (Int.le_of_lt hb);show oB k (Ax (eqB (.ofNat n) 0) none (some (.int .i64 (a.tmod (.ofNat n)))))=_;have:eqB (.ofNat n) 0=false:=by
  show Nat.beq n 0=false;cases n with
  | zero=>exact absurd hb (by decide)
  | succ n=>rfl
 rw[this,Bc];have e:a.tmod (.ofNat n)=a%n:=Int.tmod_eq_emod_of_nonneg f;rw[e];rfl
def Sb.next(s:Sb)(n:Int)(ok de:Bool)(be ba:Int):Sb:=⟨(s.cu+1)%(n+3),de,s.st+1,be,ba,if ok=true then be else s.l0,if ok=true then s.st+1 else s.l1⟩
section
variable{s:Sb}
theorem Cy.Bh1(C:Cy h B X F)(fq:F q)(g:Ri h q B.c s)(s':Sb):Cy (h.put q (.cells (s'.cells B.c) 146)) B X F/\Ri (h.put q (.cells (s'.cells B.c) 146)) q B.c s'/\As (fun i=>i=q) h (h.put q (.cells (s'.cells B.c) 146)):=by
 have lq:=C.hb _ _ g;have c:As (fun i=>i=q) h (h.put q (.cells (s'.cells B.c) 146)):=by
  exact As.Ao (S:=fun i=>i=q) (As.refl h) (.inl rfl) lq _
 exact⟨C.Afg c (fun i e _=>by subst e;exact fq) (C.hb.put lq _),Af _ _ _,c⟩
theorem Ben(c r:Ai)(C:Cy h B X F)(fq:F q)(g:Ri h q B.c s)(c0:0<=s.cu)(c1:s.cu<X.S.g.B+3)(t0:0<=s.st)(t1:s.st<1000)(ok de:Bool)(e be ba:Int):
 Ok (Ov c r K (.ptr q 0) (.bool ok) (I e) (I be) (I ba) (.bool de) h) fun v h'=>v=.tuple [.bool ok,I e]/\Cy h' B X F/\Ri h' q B.c (s.next X.S.g.B ok de be ba)/\As (fun i=>i=q) h h':=by
 have sb:=C.sm.b0;have Q:=C.sm.b1;simp only[Ov,Aa];rw[Ah g rfl (v:=I s.st) rfl];simp only[I,Ac];rw[Ci];refine Ok.st (({ s with st:=s.st+1 }:Sb).cells B.c) g rfl rfl rfl ?_;obtain⟨a,j,y⟩:=C.Bh1 fq g { s with st:=s.st+1 };generalize h.put q (.cells (({ s with st:=s.st+1 }:Sb).cells B.c) 146)=h1 at a j y⊢;have lq:=a.hb _ _ j
 try simp only[Aa,Ar]
 rw[G2 lq,Ah j rfl (v:=I s.cu) rfl]
 try simp only[Aa,Ar,I,Ac]
 rw[Ci,G2 lq,Ah j rfl rfl]
 try simp only[Aa,Ar]
 rw[Af2 (v:=.ptr B.b 0) (by simp only[Gn,Aa];rw[a.lift.ldB])];refine Ok.bE (Ig (K:=K) a.lift.map a.lift.hb) (fun _ _ p=>p.2.1) ?_;rintro _ T h2 ⟨rfl,U,V⟩ sm n;have W:=(a.Yx n).C;have g2:=n.at a.hb j;simp only[gV,gL,Aa,I,Ac];rw[Ci,Bub (by omega) (by omega)]
 try simp only[Aa,Ar]
 rw[Gt];refine Ok.st (({ s with st:=s.st+1,cu:=(s.cu+1)%(X.S.g.B+3) }:Sb).cells B.c) g2 rfl rfl rfl ?_;obtain⟨D,o,E⟩:=W.Bh1 fq g2 { s with st:=s.st+1,cu:=(s.cu+1)%(X.S.g.B+3) };generalize h2.put q (.cells (({ s with st:=s.st+1,cu:=(s.cu+1)%(X.S.g.B+3) }:Sb).cells B.c) 146)=Z at D o E⊢
 try simp only[Aa]
 refine Ok.st (({ s with st:=s.st+1,cu:=(s.cu+1)%(X.S.g.B+3),be:=be }:Sb).cells B.c) o rfl rfl rfl ?_;obtain⟨G,t,H⟩:=D.Bh1 fq o { s with st:=s.st+1,cu:=(s.cu+1)%(X.S.g.B+3),be:=be };generalize Z.put q (.cells (({ s with st:=s.st+1,cu:=(s.cu+1)%(X.S.g.B+3),be:=be }:Sb).cells B.c) 146)=h4 at G t H⊢
 try simp only[Aa]
 refine Ok.st (({ s with st:=s.st+1,cu:=(s.cu+1)%(X.S.g.B+3),be:=be,ba:=ba }:Sb).cells B.c) t rfl rfl rfl ?_;obtain⟨J,u,L⟩:=G.Bh1 fq t { s with st:=s.st+1,cu:=(s.cu+1)%(X.S.g.B+3),be:=be,ba:=ba };generalize h4.put q (.cells (({ s with st:=s.st+1,cu:=(s.cu+1)%(X.S.g.B+3),be:=be,ba:=ba }:Sb).cells B.c) 146)=h5 at J u L⊢
 try simp only[Aa]
 refine Ok.st (({ s with st:=s.st+1,cu:=(s.cu+1)%(X.S.g.B+3),be:=be,ba:=ba,de:=de }:Sb).cells B.c) u rfl rfl rfl ?_;obtain⟨m,f,M⟩:=J.Bh1 fq u { s with st:=s.st+1,cu:=(s.cu+1)%(X.S.g.B+3),be:=be,ba:=ba,de:=de };generalize h5.put q (.cells (({ s with st:=s.st+1,cu:=(s.cu+1)%(X.S.g.B+3),be:=be,ba:=ba,de:=de }:Sb).cells B.c) 146)=h6 at m f M⊢;have O:As (fun i=>i=q) h h6:=((((y.trans (Ext.to n)).trans E).trans H).trans L).trans M;cases ok with
 | false=>
  simp only[Aa,Aee];exact .ret ⟨rfl,m,f,O⟩
 | true=>
  have k:=m.hb _ _ f;simp only[Aa,Ar];rw[G2 k,Ah f rfl (v:=I be) rfl]
  try simp only[Aa,Ar]
  rw[G2 k,Ah f rfl (v:=I (s.st+1)) rfl]
  try simp only[Aa,Ar]
  rw[Aw (l:=[I be,I (s.st+1)]) rfl,Gt];refine Ok.st ((s.next X.S.g.B true de be ba).cells B.c) f rfl rfl rfl ?_;obtain⟨C7,g7,x7⟩:=m.Bh1 fq f (s.next X.S.g.B true de be ba);exact .ret ⟨rfl,C7,g7,O.trans x7⟩
end
end
section
def Up(P:Int->Prop)(h:Ab)(B:Cb)(X:Co)(F:Nat->Prop)(q:Nat)(s:Sb)(be:Int):EV->Ab->Prop:=fun v h'=>
 ∃(ok:Bool) (e:Int) (Y:Co) (s':Sb),v=.tuple [.bool ok,I e]/\Cy h' B Y F/\Ck X Y/\As (fun i=>¬F i\/i=q) h h'/\Ri h' q B.c s'/\P e /\
  ((e=34/\ok=false/\s'=s)\/(¬e=34/\∃(de:Bool) (ba:Int),s'=s.next X.S.g.B ok de be ba/\ok=(decide ((s.cu+1)%(X.S.g.B+3)=0)&&!de)))
theorem Up.from {P:Int->Prop}{h0:Ab}{s:Sb}{be:Int}{v:EV}(c:E0 h0 h B X F Y)(a:Up P h B Y F q s be v h'):Up P h0 B X F q s be v h':=by
 obtain⟨ok,e,Z,s',rfl,b,k,x,g,p,w⟩:=a;have eg:Y.S.g=X.S.g:=c.ck.g;rw[eg]at w;exact⟨ok,e,Z,s',rfl,b,c.ck.trans k,(As.mono c.k fun i y=>.inl y).trans x,g,p,w⟩
theorem Boc {a n:Int}(h0:0<=a)(b:a<n+3):decide ((a+1)%(n+3)=0)=decide (a+1=n+3):=by
 by_cases e:a+1=n+3
 ·rw[e,Int.emod_self];simp
 ·have:(a+1)%(n+3)=a+1:=Int.emod_eq_of_lt (by omega) (by omega)
  rw[this];simp only[e,aA];exact aI (by omega)
section
variable (A:By disp)(hK:10000<K){P:Int->Prop}{s:Sb}
include A hK
theorem step_end(c r:Ai)(C:Cy h B X F)(fq:F q)(g:Ri h q B.c s)(c0:0<=s.cu)(c1:s.cu<X.S.g.B+3)(t0:0<=s.st)(t1:s.st<1000)(ok de:Bool)(a:P e)(he:¬e=34)(be ba:Int)(hok:ok=(decide (s.cu+1=X.S.g.B+3)&&!de)):
 Ok (Ov c r K (.ptr q 0) (.bool ok) (I e) (I be) (I ba) (.bool de) h) (Up P h B X F q s be):=by
 refine Ok.mono (Ben c r C fq g c0 c1 t0 t1 ok de e be ba) ?_;rintro v h' ⟨rfl,b,f,x⟩;exact⟨ok,e,X,_,rfl,b,Ck.refl X,x.mono fun i y=>.inr y,f,a,.inr ⟨he,de,ba,rfl,by rw[Boc c0 c1];exact hok⟩⟩
theorem Bct(C:Cy h B X F)(fq:F q)(g:Ri h q B.c s)(c0:0<=s.cu)(c1:s.cu<X.S.g.B+3)(t0:0<=s.st)(t1:s.st<1000)(hd:15<=d)(de:Bool)(f:P 34)(j:P e)(he:¬e=34)(be ba:Int)(a:EV)
 (i:s.cu+1=X.S.g.B+3->a=.bool (!de)) :
 Ok (Ot (Ag TT disp K d false) (Ag TT disp K d true) K (.ptr q 0) (I e) (I be) (I ba) (.bool de) (.bool (decide (s.cu+1=X.S.g.B+3))) a h) (Up P h B X F q s be):=by
 have fin:=fun(ok:Bool) hok=>step_end A hK (Ag TT disp K d false) (Ag TT disp K d true) C fq g c0 c1 t0 t1 ok de j he be ba hok
 by_cases b:s.cu+1=X.S.g.B+3
 ·rw[i b]
  simp only[b,aB,Aa,Ot];cases de with
  | true=>
   simp only[eH,Aa,Kt];exact fin false (by simp)
  | false=>
   simp only[cp,Aa];rw[Ah g rfl rfl];refine Ok.Am (A37 A hK C (d:=d) hd) ?_;rintro _ h2 ⟨e2,Y,rfl,c2⟩;have eg:Y.S.g=X.S.g:=c2.ck.g;simp only[I,Ac];by_cases k:e2=0
   ·simp only[k,aC,aA,Aa,Kt]
    refine Ok.mono (step_end A hK (Ag TT disp K d false) (Ag TT disp K d true) c2.C fq (c2.sb C.hb fq g) c0 (by rw[eg];exact c1) t0 t1 true false j he be ba (by rw[eg];simp[b])) ?_;exact fun v h'=>Up.from c2
   ·simp only[k,aE,aB,Aa,Kt]
    exact .ret (Up.from c2 ⟨false,34,Y,s,rfl,c2.C,Ck.refl Y,As.refl _,c2.sb C.hb fq g,f,.inl ⟨rfl,rfl,rfl⟩⟩)
 ·simp only[b,aA,Aa,Ot,Kt]
  exact fin false (by simp[b])
theorem Atr(C:Cy h B X F)(fq:F q)(g:Ri h q B.c s)(c0:0<=s.cu)(c1:s.cu<X.S.g.B+3)(t0:0<=s.st)(t1:s.st<1000)(hd:15<=d)(a b:Bool)(i:P 34)(u:P e)(he:¬e=34)(be ba:Int)(f:EV)(j:a=false->f=.bool b):
 Ok (Uu (Ag TT disp K d false) (Ag TT disp K d true) K (.ptr q 0) (I e) (I be) (I ba) (.bool a) f h) (Up P h B X F q s be):=by
 have E:∀k:EV->R,pkO (.bool a) f k=k (.bool (a||b)):=by
  intro k;cases a with
  | true=>simp only[Aa,Bool.true_or]
  | false=>rw[j rfl];simp only[Aa,Bool.false_or]
 simp only[Uu,E];generalize (a||b)=D;have G:=C.sm.b1;refine Ok.Am (Baf (K:=K) C g c0 (by omega)) ?_;rintro _ h2 ⟨rfl,H⟩;have c2:=C.Yx H;have g2:=c2.sb C.hb fq g;have J:=fun m o=>(Bct A hK c2.C fq g2 c0 c1 t0 t1 hd D i u he be ba m o).mono fun v h'=>Up.from c2
 by_cases t:s.cu+1=X.S.g.B+3
 ·rw[aJ t]at J⊢
  have w:∀p r:R,wtE (.bool true) p r=p:=fun p r=>rfl
  have n:∀k:EV->R,Alz (.bool D) k=k (.bool (!D)):=fun k=>by cases D<;>rfl
  rw[w,n];exact J _ fun _=>rfl
 ·rw[aI t]at J⊢
  have w:∀p r:R,wtE (.bool false) p r=r:=fun p r=>rfl
  rw[w];exact J _ fun y=>absurd y t
end
end
section
variable (A:By disp)(hK:10000<K){P:Int->Prop}{s:Sb}
include A hK
theorem A1b(C:Cy h B X F)(fq:F q)(g:Ri h q B.c s)(c0:0<=s.cu)(c1:s.cu<X.S.g.B+3)(t0:0<=s.st)(t1:s.st<1000)(hd:15<=d)(j k:Bool)(f:P 34)(m:P e)(he:¬e=34)(be ba:Int):
 Ok (Kq (Ag TT disp K d false) (Ag TT disp K d true) K (.ptr q 0) (I e) (.bool j) (I be) (I ba) (.bool k) h) (Up P h B X F q s be):=by
 have t:=fun a b o p=>Atr A hK C fq g c0 c1 t0 t1 hd a b f m he be ba o p
 have u:=C.sm.b1;have i:D6 (.tuple []) false=false/\D6 (.tuple []) true=false:=⟨rfl,rfl⟩;cases k with
 | true=>
  simp only[Kq,Aa,Ow,Kn,Ks,i,Bu];exact t true true _ fun y=>by cases y
 | false=>
  cases j with
  | false=>
   simp only[Kq,Aa,Ow,Kn,Ks,i,Bu];exact t true true _ fun y=>by cases y
  | true=>
   simp only[Kq,Aa,Ow,Bu];refine Ok.Am (Baf (K:=K) C g c0 (by omega)) ?_;rintro _ h2 ⟨rfl,D⟩;have c2:=C.Yx D;have g2:=c2.sb C.hb fq g;cases decide (s.cu+1=X.S.g.B+3)with
   | false=>
    simp only[Aa,Kn,Ks,i,Bu];exact(Atr A hK c2.C fq g2 c0 c1 t0 t1 hd false false f m he be ba _ fun _=>rfl).mono fun v h'=>Up.from c2
   | true=>
    simp only[Aa,Kn,Bu];refine Ok.Am (A4r (K:=K) hK c2.C g2) ?_;rintro _ H ⟨⟨n,rfl,n0,J⟩,E⟩;have c3:=c2.trans (c2.C.Yx E);have G:=c3.sb C.hb fq g;simp only[I,Ac,Ks,Aa,Bu];exact(Atr A hK c3.C fq G c0 c1 t0 t1 hd false _ f m he be ba _ fun _=>rfl).mono fun v h'=>Up.from c3
theorem Bd5(C:Cy h B X F)(fq:F q)(g:Ri h q B.c s)(c0:0<=s.cu)(c1:s.cu<X.S.g.B+3)(t0:0<=s.st)(t1:s.st<1000)(hd:15<=d)(a:Bool)(b:P 34)(i:P e)(he:¬e=34)(n:Int):
 Ok (U3 (Ag TT disp K d false) (Ag TT disp K d true) K (.ptr q 0) (I e) (I n) (.bool a) h) (Up P h B X F q s (if s.cu=0 then s.st+1 else s.be)):=by
 simp only[U3,Aa];rw[Ah g rfl (v:=I s.be) rfl]
 try simp only[Aa]
 rw[Ah g rfl (v:=I s.ba) rfl]
 try simp only[Aa]
 rw[Ah g rfl (v:=.bool s.de) rfl]
 try simp only[Aa]
 rw[Ah g rfl (v:=I s.cu) rfl];simp only[I,Ac];by_cases f:s.cu=0
 ·rw[aQ f,aJ f]
  simp only[Aa];rw[Ah g rfl (v:=I s.st) rfl];simp only[I,Ac];rw[Ci];exact A1b A hK C fq g c0 c1 t0 t1 hd a false b i he (s.st+1) n
 ·rw[aM f,aI f]
  simp only[Aa];exact A1b A hK C fq g c0 c1 t0 t1 hd a s.de b i he s.be s.ba
theorem A3x(H27:disp 27=some (Ac4 F27))(C:Cy h B X F)(fq:F q)(g:Ri h q B.c s)(c0:0<=s.cu)(c1:s.cu<X.S.g.B+3)(t0:0<=s.st)(t1:s.st<1000)(hd:31<=d)(cur:∀e,d-4<=e->Awd disp K e):
 Ok (Ag TT disp K d false 39 [.ptr q 0] h) (Up (fun e=>X.S.dr.dv.down=true->e=34\/e=0/\s.cu<X.S.g.B/\¬(Ajq X.es s.cu).1.state=1) h B X F q s (if s.cu=0 then s.st+1 else s.be)):=by
 obtain⟨e,rfl⟩:∃k,d=k+1:=⟨d-1,by omega⟩;rw[Aqn A (by omega)];simp only[Akv];refine Ok.Am (A4r (K:=K) hK C g) ?_;rintro _ h2 ⟨⟨n,rfl,n0,j⟩,i⟩;have c2:=C.Yx i;have g2:=c2.sb C.hb fq g;refine Ok.Am (Brg A hK H27 c2.C fq g2 (d:=e) (by omega) (fun k m=>cur k (by omega)) c0 c1) ?_;rintro _ o ⟨ok,e3,Y,rfl,b,dn⟩;have a:X.S.dr.dv.down=true->(34:Int)=34\/(34:Int)=0/\s.cu<X.S.g.B/\¬(Ajq X.es s.cu).1.state=1:=fun _=>.inl rfl
 have c3:=c2.trans b;have f:=c3.sb C.hb fq g;have eg:Y.S.g=X.S.g:=c3.ck.g;simp only[Aa,I,Ac];by_cases k:e3=34
 ·simp only[k,aB,Aa]
  exact .ret (Up.from c3 ⟨false,34,Y,s,rfl,c3.C,Ck.refl Y,As.refl _,f,a,.inl ⟨rfl,rfl,rfl⟩⟩)
 ·simp only[k,aA,Aa]
  exact(Bd5 A hK c3.C fq f c0 (by rw[eg];exact c1) t0 t1 (d:=e) (by omega) ok a dn k n).mono fun v h'=>Up.from c3
end
end Go.Ev
