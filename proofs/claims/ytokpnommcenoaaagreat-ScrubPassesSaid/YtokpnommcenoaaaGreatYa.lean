import Derived.Test.YtokpnommcenoaaaGreatXb
import Derived.Test.YtokpnommcenoaaaGreatXa
set_option linter.all false
namespace Go.Ev
open Go.Proofs
set_option maxRecDepth 100000
variable {K P a b i n q t off:Nat}{k:EV->R}{p out:List Nat}{h h':Ab}{v kind:Int}{x:EV}{op:Bool}
abbrev Nk(k:IntKind)(a:Nat):EV:=.int k (Int.ofNat a)
theorem wrap_u8(a:Nat):Cx .u8 (Int.ofNat a)=Int.ofNat (a%256):=by
 rw[Nr];rfl
theorem wrap_u32(a:Nat):Cx .u32 (Int.ofNat a)=Int.ofNat (a%4294967296):=by
 rw[Nr];rfl
theorem A0k {c:IntKind}:Tq .u8 (.int c (Int.ofNat a)) k=k (Nk .u8 (a%256)):=by
 rw[A51,wrap_u8]
theorem Aq1:Ae8 (bin TT .shr t) (.int .i64 (Int.ofNat a)) (.int .u64 8) k=k (Nk .i64 (a/256)):=by
 show k (.int .i64 (.ofNat (Nat.shiftRight a 8)))=_;have:Nat.shiftRight a 8=a/256:=fJ a 8;rw[this]
theorem Aws {s:Nat}(hs:s<=32):Ae8 (bin TT .shr t) (.int .u32 (Int.ofNat a)) (.int .u64 (Int.ofNat s)) k=k (Nk .u32 (a/2^s)):=by
 show k (.int .u32 (.ofNat (Nat.shiftRight a (Ax (Nat.ble s 32) s 32))))=_;rw[aO hs,Ak];have:Nat.shiftRight a s=a/2^s:=fJ a s;rw[this]
theorem Bga(d:a<4294967296)(hb:b<4294967296):Ae8 (bin TT .xor t) (.int .u32 (Int.ofNat a)) (.int .u32 (Int.ofNat b)) k=k (Nk .u32 (a ^^^ b)):=by
 show k (.int .u32 (Cx .u32 (.ofNat (Nat.xor a b))))=_;rw[wrap_u32];have:Nat.xor a b<2^32:=dZ (n:=32) d hb;rw[fL (by exact this)];rfl
theorem Bm0(d:a<256)(hb:b<256):Ae8 (bin TT .xor t) (.int .u8 (Int.ofNat a)) (.int .u8 (Int.ofNat b)) k=k (Nk .u8 (a ^^^ b)):=by
 show k (.int .u8 (Cx .u8 (.ofNat (Nat.xor a b))))=_;rw[wrap_u8];have:Nat.xor a b<2^8:=dZ (n:=8) d hb;rw[fL (by exact this)];rfl
def wd:Nat->Nat->Nat
 | 0,_=>1
 | f+1,a=>if a/256=0 then 1 else wd f (a/256)+1
theorem Bsa:∀(f a w:Nat),a<256^(f+1)->1<=w->(wd f a<=w↔a<256^w)
 | 0,a,w,h,hw=>by
  refine⟨fun _=>aN h (eO (by decide) (by omega)),fun _=>hw⟩
 | f+1,a,w,h,hw=>by
  unfold wd;by_cases h0:a/256=0
  ·rw[aQ h0]
   refine⟨fun _=>?_,fun _=>hw⟩;have:a<256:=by omega
   exact aN this (by have:=eO (n:=256) (by decide) hw;simpa using this)
  ·rw[aM h0]
   have d:=Bsa f (a/256) (w-1) (by rw[dU]at h;exact fI (by rw[fT];exact h));by_cases g:w=1
   ·subst g
    refine⟨fun y=>?_,fun y=>?_⟩
    ·have:1<=wd f (a/256):=by cases f<;>unfold wd<;>(try split)<;>omega
     omega
    ·exfalso;apply h0;simp at y;omega
   ·have d:=d (by omega)
    obtain⟨v,rfl⟩:∃v,w=v+1:=⟨w-1,by omega⟩;rw[fY]at d;rw[dU];refine⟨fun y=>?_,fun y=>?_⟩
    ·have:=d.1 (by omega)
     have:=Nat.div_lt_iff_lt_mul (k:=256) (x:=a) (y:=256^v) (by decide);omega
    ·have:=d.2 (fI (by rw[fT];exact y))
     omega
theorem Bd4:∀(f m a n:Nat) (h:Ab),f<m->a<256^(f+1)->n+f<=100->f<=10 ->
 Ls K m (Nk .i64 a) (Nk .i64 n) h=Zd K (Nk .i64 (a/256^(wd f a-1))) (Nk .i64 (n+wd f a-1)) h:=by
 intro f;induction f with
 | zero=>
  intro m a n h hm d g j;obtain⟨m,rfl⟩:∃k,m=k+1:=⟨m-1,by omega⟩;have:a/256=0:=by simp at d;omega
  simp only[Ls,dr];rw[Aq1,this];simp only[Nk,Ac];rw[show decide ((0:Int)<Int.ofNat 0)=false from rfl];simp only[Aa,wd,fS,Nat.pow_zero,Nat.div_one,fY]
 | succ f o=>
  intro m a n h hm d g j;obtain⟨m,rfl⟩:∃k,m=k+1:=⟨m-1,by omega⟩;simp only[Ls,dr];rw[Aq1];simp only[Nk,Ac];unfold wd;by_cases h0:a/256=0
  ·rw[aQ h0,h0]
   rw[show decide ((0:Int)<Int.ofNat 0)=false from rfl];simp only[Aa,fS,Nat.pow_zero,Nat.div_one,fY]
  ·rw[aM h0,show decide ((0:Int)<Int.ofNat (a/256))=true from aJ (by show(0:Int)<((a/256:Nat):Int);omega)]
   simp only[Aa,Aq8];rw[Aq1];simp only[Nk,Ac];rw[show Cx .i64 (Int.ofNat n+1)=Int.ofNat (n+1)from Ci (by show _<=((n:Nat):Int)+1;omega) (by show((n:Nat):Int)+1<=_;omega)];have e:=o m (a/256) (n+1) h (by omega) (fI (by rw[fT,<-dU];exact d)) (by omega) (by omega);rw[e];have hw:1<=wd f (a/256):=by cases f<;>unfold wd<;>(try split)<;>omega
   obtain⟨u,hu⟩:∃u,wd f (a/256)=u+1:=⟨wd f (a/256)-1,by omega⟩;rw[hu,fY,show u+1+1-1=u+1 from rfl,Nat.pow_succ',eV,show n+1+(u+1)-1=n+(u+1+1)-1 by omega]
def Ag3(a:Nat):Nat:=if 7<wd 7 a then 8 else wd 7 a
theorem A4m(g:a<9223372036854775808)(j:1000<K)(h:Ab):W9 K (.int .i64 (Int.ofNat a)) h=some (Nk .i64 (Ag3 a),h):=by
 simp only[W9,dr];unfold Ag3;have e:=Bd4 (K:=K) 7 K a 1 h (by omega) (Nat.lt_trans g (by decide)) (by decide) (by decide);have:(EV.int .i64 1)=Nk .i64 1:=rfl;rw[this,e];have hw:1<=wd 7 a:=by unfold wd;split<;>omega
 simp only[Zd,Nk,Ac];rw[show decide (Int.ofNat (a/256^(wd 7 a-1))<0)=false from aI (by show ¬(((a/256^(wd 7 a-1):Nat):Int)<0);exact Int.not_lt.2 (Int.natCast_nonneg _))];rw[show 1+wd 7 a-1=wd 7 a by omega];by_cases d:7<wd 7 a
 ·rw[show decide ((7:Int)<Int.ofNat (wd 7 a))=true from aJ (by show(7:Int)<((wd 7 a:Nat):Int);omega),aQ d]
  simp only[Aa,Y7];rfl
 ·rw[show decide ((7:Int)<Int.ofNat (wd 7 a))=false from aI (by show ¬((7:Int)<((wd 7 a:Nat):Int));omega),aM d]
  simp only[Aa,Y7,Aph]
theorem Bhr(g:1000<K)(h:Ab):W9 K (.int .i64 (Int.negSucc a)) h=some (I 8,h):=by
 obtain⟨m,rfl⟩:∃k,K=k+1:=⟨K-1,by omega⟩;simp only[W9,Ls,dr];have e:∀k:EV->R,Ae8 (bin TT .shr 3) (.int .i64 (Int.negSucc a)) (.int .u64 8) k=k (.int .i64 ((Int.negSucc a).fdiv 256)):=fun k=>rfl
 have d:(Int.negSucc a).fdiv 256<0:=by
  rw[fH _ (by decide)];have:Int.negSucc a<0:=Int.negSucc_lt_zero a;omega
 rw[e];simp only[Ac];rw[show decide ((0:Int)<(Int.negSucc a).fdiv 256)=false from aI (by omega)];simp only[Aa,Zd,Ac];rw[show decide (Int.negSucc a<0)=true from aJ (Int.negSucc_lt_zero a)];simp only[Aa,Y7,I]
theorem A4w {w:Nat}(d:a<9223372036854775808)(g:1<=w)(j:w<=7):Ag3 a<=w↔a<256^w:=by
 have:=Bsa 7 a w (Nat.lt_trans d (by decide)) g;rw[<-this];unfold Ag3;split<;>omega
def Vc(w a:Nat):List Nat:=(List.range w).map fun i=>a/256^i%256
theorem A08(w a:Nat):Vc (w+1) a=Vc w a++[a/256^w%256]:=by unfold Vc;rw[dJ,bm];rfl
theorem Hv(w a:Nat):(Vc w a).length=w:=by simp[Vc]
theorem Avz(a b:List Nat):Bj (a++b)=Bj a++Bj b:=bm
theorem Bg(a:List Nat):(Bj a).length=a.length:=bZ _
structure A3h(h:Ab)(P t:Nat)(out:List Nat)(bad:Bool):Prop where
 Mw:∃s q,h.get P=some (.cells [s,.bool bad] t)/\Cc h s q 5 1 out.length (Bj out)/\(0<out.length->P<q)
theorem Ada(n:Int)(h:Ab):Zc K (I n) h=some (.bool (decide (1<=n/\n<=7)),h):=by
 simp only[Zc,I,Ac,Aa];by_cases d:1<=n
 ·simp only[d,aB,Aa,Ac,Ac1,gF]
 ·simp only[d,aA,Aa,Ac1,gE]
theorem Bno {w:Nat}{bad:Bool}(B:a<9223372036854775808)(hw:w<=7)(C:out.length<=60000)(h0:Ab)(D:P<h0.next):∀(m i:Nat) (h:Ab),w-i<m->i<=w->HB h->As (fun i=>P<=i) h0 h->A3h h P t (out++Vc i a) bad ->
 Ok (Iy K m (.ptr P 0) (Nk .i64 (a/256^i)) (I w) (I i) h) fun _ h'=>A3h h' P t (out++Vc w a) bad/\As (fun i=>P<=i) h0 h'/\HB h':=by
 intro m;induction m with
 | zero=>intro i h hm;omega
 | succ m u=>
  intro i h hm E hb c p;obtain⟨s,q,g,r,l⟩:=p.Mw;simp only[Iy,I,Ac,Aa];by_cases d:(i:Int)<w
  ·simp only[d,aB,Aa,Aam,C0 g rfl]
   rw[wrap_u8];have hlen:(out++Vc i a).length=out.length+i:=by rw[aG,Hv]
   refine L7 (z:=[.int .u8 0]) r hb rfl rfl rfl (by omega) (by omega) ?_;intro h2 A F c2;have gq:¬(0<(out++Vc i a).length/\P=q):=fun y=>by have:=l y.1;omega
   have g2:=c2.at hb g gq;have o:=(c2.hb hb) _ _ g2;refine Ok.st1 g2 rfl rfl (by show 0<2;decide) ?_;rw[Aq1];simp only[Aap,I,Ac];rw[Ci,eV,<-dU];have c3:As (fun i=>P<=i) h (h2.put P (.cells ([s,EV.bool bad].set 0 (.slice (h.next+1) 0 ((out++Vc i a).length+1) ((out++Vc i a).length+1) true)) t)):=(c2.mono fun j hj=>by have:=l hj.1;show P<=j;omega).Ao (.inl (aD _)) o _;refine u (i+1) _ (by omega) (by omega) ((c2.hb hb).put o _) (c.trans c3) ?_;rw[A08,<-b9];refine⟨_,h.next+1,Af _ _ _,?_,fun _=>by have:=c.next;omega⟩;have e1:((out++Vc i a)++[a/256^i%256]).length=(out++Vc i a).length+1:=by rw[aG];rfl
   have e2:Bj ((out++Vc i a)++[a/256^i%256])=Bj (out++Vc i a)++EV.cells (Nk .u8 (a/256^i%256)):=by rw[Avz];rfl
   rw[e1,e2];refine A.frame fun _=>Ae _ ?_
   have:=hb _ _ g;omega
  ·have:i=w:=by omega
   subst this;simp only[d,aA,Aa];exact .ret ⟨p,c,hb⟩
def fits(w:Nat)(v:Int):Bool:=decide (0<=v/\v<(256^w:Nat))
theorem Lx {w:Nat}{bad:Bool}(u:1000<K)(p:A3h h P t out bad)(hb:HB h)(B:out.length<=60000)(C:1<=w)(A:w<=7)(D : -9223372036854775808<=v/\v<=9223372036854775807):
 Ok (Ee K (.ptr P 0) (I w) (I v) h) fun _ h'=>A3h h' P t (if fits w v=true then out++Vc w v.toNat else out) (bad||!fits w v)/\As (fun i=>P<=i) h h'/\HB h':=by
 obtain⟨s,q,g,r,l⟩:=p.Mw;have j:=hb _ _ g;simp only[Ee,dr];rw[Ada,aJ ⟨by omega,by omega⟩];simp only[Aa,Ac];have no:fits w v=false->Ok (stE 1 (.ptr P 1) (.bool true) h fun h=>some (.tuple [],h)) fun _ h'=>A3h h' P t (if fits w v=true then out++Vc w v.toNat else out) (bad||!fits w v)/\As (fun i=>P<=i) h h'/\HB h':=by
  intro m;refine Ok.st1 g rfl rfl (by show 1<2;decide) ?_;refine .ret ⟨?_,(As.refl (S:=fun i=>P<=i) h).Ao (.inl (aD _)) j _,hb.put j _⟩;rw[m,aM (by simp),cp,Bool.or_true];exact⟨s,q,Af _ _ _,r.frame fun y=>Ae _ (by have:=l y;omega),l⟩
 cases v with
 | negSucc a=>
  unfold I;rw[Bhr u,Aq];simp only[I,Ac];rw[show decide ((w:Int)<8)=true from aJ (by omega)];simp only[Aa,Pe];exact no (aI fun y=>absurd y.1 (by have:=Int.negSucc_lt_zero a;omega))
 | ofNat a=>
  have o:a<9223372036854775808:=by have:((a:Nat):Int)<=9223372036854775807:=D.2;omega
  unfold I;rw[A4m o u,Aq];have d:=A4w o C A;simp only[Nk,Ac];by_cases hw:Ag3 a<=w
  ·have m:fits w (Int.ofNat a)=true:=aJ ⟨Int.natCast_nonneg a,by have:=d.1 hw;exact Int.ofNat_lt.2 this⟩
   rw[show decide ((w:Int)<Int.ofNat (Ag3 a))=false from aI (by show ¬(w:Int)<((Ag3 a:Nat):Int);omega)];simp only[Aa,Pe,Aau];have:=Bno (K:=K) (P:=P) (t:=t) (w:=w) (bad:=bad) o A B h j K 0 h (by omega) (cU _) hb (As.refl _) (by simpa [Vc]using p);rw[Nat.pow_zero,Nat.div_one]at this;rw[m,aQ rfl,eH,Bool.or_false];exact this
  ·rw[show decide ((w:Int)<Int.ofNat (Ag3 a))=true from aJ (by show(w:Int)<((Ag3 a:Nat):Int);omega)]
   simp only[Aa,Pe];exact no (aI fun y=>hw (d.2 (Int.ofNat_lt.1 y.2)))
theorem Avo{bad:Bool}{new:List Nat}(p:A3h h P t out bad)(hb:HB h)(B:out.length<=60000)(o:lenOf x=some n)(h0:0<n)(C:n<=5000)(u:Pk h 1 n x=some (Bj new))(m:new.length=n):
 Ok (Qy K (.ptr P 0) x h) fun _ h'=>A3h h' P t (out++new) bad/\As (fun i=>P<=i) h h'/\HB h':=by
 obtain⟨s,q,g,r,l⟩:=p.Mw;have D:=hb _ _ g;simp only[Qy,Aa,C0 g rfl];obtain⟨h2,e,A,E,c2⟩:=Aav r o h0 (by omega) (by omega) u (by rw[Bg,m,bk]);rw[e,Aq];have gq:¬(0<out.length/\P=q):=fun y=>by have:=l y.1;omega
 have g2:=c2.at hb g gq;have d:=(c2.hb hb) _ _ g2
 try simp only[Aa]
 refine Ok.st1 g2 rfl rfl (by show 0<2;decide) ?_;refine .ret ⟨⟨_,h.next,Af _ _ _,?_,fun _=>by omega⟩,(c2.mono fun j hj=>by have:=l hj.1;show P<=j;omega).Ao (.inl (aD _)) d _,(c2.hb hb).put d _⟩;rw[aG,m,Avz];exact A.frame fun _=>Ae _
structure Bs(h:Ab)(x:EV)(b off:Nat)(l:List Nat):Prop where
 Mw:∃r op o row,x=.slice b off l.length r op/\l.length<=r/\h.get b=some o/\rowOf o=some row/\off+l.length<=row.length/\(row.drop off).take l.length=Bj l
theorem Bs.frame{l:List Nat}(s:Bs h x b off l)(e:h'.get b=h.get b):Bs h' x b off l:=by
 obtain⟨r,op,o,row,e1,e0,e2,e3,e4,e5⟩:=s.Mw;exact⟨r,op,o,row,e1,e0,by rw[e];exact e2,e3,e4,e5⟩
theorem Bs.lt{l:List Nat}(s:Bs h x b off l)(hb:HB h):b<h.next:=by
 obtain⟨r,op,o,row,e1,e0,e2,e3,e4,e5⟩:=s.Mw;exact hb _ _ e2
theorem Bs.ext{l:List Nat}(s:Bs h x b off l)(hb:HB h)(c:Ext h h'):Bs h' x b off l:=s.frame (c.get _ (s.lt hb) id)
theorem Bs.lift{l:List Nat}(s:Bs h x b off l):Bs h.lift x b off l:=s.frame (Br _ _)
theorem Bs.len{l:List Nat}(s:Bs h x b off l):lenOf x=some l.length:=by
 obtain⟨r,op,o,row,rfl,_⟩:=s.Mw;rfl
theorem Bs.Hf{l:List Nat}(s:Bs h x b off l)(k:EV->R):Ev.Hf x k=k (I l.length):=by
 obtain⟨r,op,o,row,rfl,_⟩:=s.Mw;rfl
theorem Bs.cells{l:List Nat}(s:Bs h x b off l):Pk h 1 l.length x=some (Bj l):=by
 obtain⟨r,op,o,row,rfl,e0,e2,e3,e4,e5⟩:=s.Mw;show Ax (Nat.beq l.length 0) (some []) (Yq h b off (Nat.mul l.length 1))=_;rw[show Nat.mul l.length 1=l.length from bk _];have d:Mu row off l.length=some (Bj l):=by rw[E7 e4,e5]
 cases g:l with
 | nil=>rfl
 | cons a r=>
  rw[show Nat.beq (a::r).length 0=false from rfl,Bc];unfold Yq;rw[e2,<-g];cases o<;>first|(cases e3;done)|(cases e3;exact d)
theorem Bs.ix{l:List Nat}(s:Bs h x b off l)(d:i<l.length):(∀k:EV->R,Zl 1 x (.int .i64 (i:Int)) k=k (.ptr b (off+i)))/\(∀k:EV->R,Fw (.ptr b (off+i)) h k=k (Nk .u8 l[i])):=by
 obtain⟨r,op,o,row,rfl,e0,e2,e3,e4,e5⟩:=s.Mw;refine⟨fun k=>by rw[Od d,bk],fun k=>?_⟩;rw[C0 e2 e3];have:row[off+i]? = some (Nk .u8 l[i]):=by
  have e5:=congrArg (fun z=>z[i]?) e5;simp only[dY,d,bI,cX]at e5;rw[e5];unfold Bj;rw[bA,aH d];rfl
 rw[this];rfl
theorem Bs.take{l:List Nat}(s:Bs h x b off l)(j:n<=l.length):∃y,(∀k:EV->R,Ae2 1 x none (some (.int .i64 (n:Int))) none k=k y)/\Bs h y b off (l.take n):=by
 obtain⟨r,op,o,row,rfl,e0,e2,e3,e4,e5⟩:=s.Mw;have d:(l.take n).length=n:=by rw[bH,dW j]
 refine⟨EV.slice b off n r op,fun k=>?_,⟨r,op,o,row,by rw[d],by rw[d];omega,e2,e3,by rw[d];omega,?_⟩⟩
 ·have:slc (EV.slice b off l.length r op) 1 none (some (.int .i64 (n:Int))) none=some (EV.slice b off n r op):=by
   have g:bound (some (.int .i64 (n:Int))) r l.length=some n:=by
    show Ax (Nat.ble n r) (some n) none=_;rw[aO (by omega),Ak]
   unfold slc;simp only[g];cases op with
   | true=>rfl
   | false=>
    show Ax (Nat.ble 0 r) (some (EV.slice b (Ax (Nat.beq r 0) off (Nat.add off (Nat.mul 0 1))) n r false)) none=_;rw[aO (cU _),Ak];have:Ax (Nat.beq r 0) off (Nat.add off (Nat.mul 0 1))=off:=by
     rw[show Nat.add off (Nat.mul 0 1)=off from rfl];cases Nat.beq r 0<;>rfl
    rw[this]
  unfold Ae2;rw[this];rfl
 ·rw[d]
  have:=congrArg (fun z=>z.take n) e5;simp only[List.take_take,dW j]at this;rw[this];unfold Bj;rw[List.map_take]
theorem Bs.drop{l:List Nat}{r:Nat}(s:Bs h (.slice b off l.length r op) b off l)(B:n<l.length):(∀k:EV->R,Ae2 1 (.slice b off l.length r op) (some (.int .i64 (n:Int))) none none k=k (.slice b (off+n) (l.length-n) (r-n) op))/\Bs h (.slice b (off+n) (l.length-n) (r-n) op) b (off+n) (l.drop n):=by
 obtain⟨C,m,o,row,e1,e0,e2,e3,e4,e5⟩:=s.Mw;injection e1 with _ _ _ u y;subst u y;have d:(l.drop n).length=l.length-n:=by rw[aU]
 refine⟨fun k=>?_,⟨r-n,op,o,row,by rw[d],by rw[d];omega,e2,e3,by rw[d];omega,?_⟩⟩
 ·have:slc (.slice b off l.length r op) 1 (some (.int .i64 (n:Int))) none none=some (.slice b (off+n) (l.length-n) (r-n) op):=by
   have g:bound (some (.int .i64 (n:Int))) l.length 0=some n:=by
    show Ax (Nat.ble n l.length) (some n) none=_;rw[aO (by omega),Ak]
   have j:bound none r l.length=some l.length:=rfl;unfold slc;simp only[g,j];cases op with
   | true=>
    rw[Ak];cases n with
    | zero=>rfl
    | succ n=>
     rw[show Nat.beq (n+1) 0=false from rfl,Bc,aO (by show n+1+1<=r;omega),Ak,show Nat.mul (n+1) 1=n+1 from bk _];rfl
   | false=>
    rw[Bc,aO (by show n<=r;omega),Ak,show Nat.mul n 1=n from bk _];have:Nat.beq r n=false:=by
     cases A:Nat.beq r n with
     | false=>rfl
     | true=>have:=aL A;omega
    rw[this,Bc];rfl
  unfold Ae2;rw[this];rfl
 ·have:=congrArg (fun z=>z.drop n) e5
  rw[d];simp only[List.drop_take,cD]at this;rw[this];unfold Bj;rw[List.map_drop]
theorem Cc.bs{s:EV}{l:List Nat}(r:Cc h s q 5 1 l.length (Bj l))(d:0<l.length):Bs h s q 0 l:=by
 refine⟨l.length,true,_,Bj l,r.slice d,aD _,r.block d,rfl,by rw[Bg,bF];exact aD _,?_⟩;rw[dE,<-Bg,cL]
def Bt1:EV->Nat
 | .int _ x=>x.toNat
 | _=>0
noncomputable def Be7:List Nat:=Be.map Bt1
theorem Bhz:Be=Be7.map (Nk .u32):=by kernel_rfl
theorem Bss:Be7.all (fun n=>Nat.blt n 4294967296)=true:=by kernel_rfl
theorem Bpu:Be7.length=256:=by kernel_rfl
noncomputable def A48(r c:Nat):Nat:=(r/256) ^^^ (Be7[(r%256) ^^^ c]?).getD 0
theorem Bed(g:i<256):Be[i]? = some (Nk .u32 ((Be7[i]?).getD 0))/\(Be7[i]?).getD 0<4294967296:=by
 have d:i<Be7.length:=by rw[Bpu];exact g
 rw[Bhz,bA,aH d];refine⟨rfl,?_⟩;have:=dP.1 Bss _ (av d);exact bB this
theorem Brh {r c:Nat}(j:r<4294967296)(d:c<256):A48 r c<4294967296:=by
 unfold A48;have g:(r%256) ^^^ c<2^8:=dZ (n:=8) (Nat.mod_lt _ (by decide)) d;exact dZ (n:=32) (by show r/256<4294967296;omega) (Bed g).2
theorem Bq5{r c:Nat}(u:r<4294967296)(g:c<256):Ok (Yj K U0 (Nk .u32 r) (Nk .u8 c) h) fun v h'=>v=Nk .u32 (A48 r c)/\Ext h h':=by
 unfold U0;simp only[Yj,Aa];obtain⟨y,j,m,o,_⟩:=nW h (.cells Be 119);rw[j];rw[show ∀k:EV->R,Ae8 (bin TT .shr 117) (Nk .u32 r) (.int .u64 8) k=k (Nk .u32 (r/256))from fun k=>Aws (s:=8) (by decide)];have d:(r%256) ^^^ c<256:=dZ (n:=8) (Nat.mod_lt _ (by decide)) g;rw[wrap_u8,Bm0 (Nat.mod_lt _ (by decide)) g,show ∀k:EV->R,Ap9 256 1 (.ptr h.next 0) (Nk .u8 ((r%256) ^^^ c)) k=k (.ptr h.next (0+((r%256) ^^^ c)*1))from fun k=>Oy d];rw[C0 o rfl,bF,bk,(Bed d).1];simp only[Gu];rw[Bga (by omega) (Bed d).2];exact .ret ⟨rfl,m⟩
noncomputable def Ay2(r:Nat)(l:List Nat):Nat:=l.foldl A48 r
theorem A0a:∀(l:List Nat) (r:Nat),r<4294967296->(∀b∈l,b<256)->Ay2 r l<4294967296
 | [],r,d,_=>d
 | c::l,r,d,g=>A0a l (A48 r c) (Brh d (g c (aV ..))) fun b hb=>g b (aT _ hb)
theorem Bhq {T:Nat}{l:List Nat}(u:∀b∈l,b<256)(D:l.length<=5000){r0:Nat}(h0:r0<4294967296):∀(m i:Nat) (h:Ab),l.length-i<m->i<=l.length->HB h->h.get T=some (.cells Be 119)->Bs h x b off l ->
 Ok (Nc K m (.ptr T 0) (Nk .u32 (Ay2 r0 (l.take i))) x (I l.length) (I i) h) fun v h'=>v=Nk .u32 (Ay2 r0 l)/\Ext h h':=by
 intro m;induction m with
 | zero=>intro i h hm;omega
 | succ m A=>
  intro i h hm E hb y s;simp only[Nc,I,Ac,Aa];by_cases g:(i:Int)<l.length
  ·have d:i<l.length:=by omega
   obtain⟨e1,e2⟩:=s.ix d;simp only[g,aB,Aa,Air,e1,e2,Cz y rfl];rw[Aj P7];simp only[Gu];have o:∀b∈l.take i,b<256:=fun b hb=>u b (bO hb)
   refine(Bq5 (K:=K) (A0a _ _ h0 o) (u _ (av d))).Am ?_;rintro _ B ⟨rfl,j⟩;simp only[Ahs,I,Ac];rw[Ci];have e:A48 (Ay2 r0 (l.take i)) l[i]=Ay2 r0 (l.take (i+1)):=by
    unfold Ay2;rw[List.take_add_one,List.foldl_append,aH d];rfl
   rw[e];refine(A (i+1) B (by omega) (by omega) (j.hb hb) (j.at hb y) (s.ext hb j)).mono ?_;rintro v h' ⟨e,C⟩;exact⟨e,j.trans C⟩
  ·have:i=l.length:=by omega
   subst this;simp only[g,aA,Aa,Ais,cL];exact .ret ⟨rfl,As.refl _⟩
noncomputable def F2(l:List Nat):Nat:=Ay2 4294967295 l ^^^ 4294967295
theorem Bcb {l:List Nat}(d:∀b∈l,b<256):F2 l<4294967296:=dZ (n:=32) (A0a l _ (by decide) d) (by decide)
theorem A7n{l:List Nat}(A:10000<K)(s:Bs h x b off l)(hb:HB h)(g:∀b∈l,b<256)(j:l.length<=5000):Ok (Of K U0 x h) fun v h'=>v=Nk .u32 (F2 l)/\Ext h h':=by
 unfold U0;simp only[Of,Aa];obtain⟨m,o,d,u,_⟩:=nW h (.cells Be 119);rw[o];have s1:=s.ext hb d;simp only[Agv,s1.Hf,dr];refine(Bhq (K:=K) g j (r0:=4294967295) (by decide) K 0 m (by omega) (cU _) (d.hb hb) u s1).Am ?_;rintro _ h2 ⟨rfl,y⟩;rw[show ∀k:EV->R,Ae8 (bin TT .xor 117) (Nk .u32 (Ay2 4294967295 l)) (.int .u32 4294967295) k=k (Nk .u32 (F2 l))from fun k=>Bga (b:=4294967295) (A0a l _ (by decide) g) (by decide)];exact .ret ⟨rfl,d.trans y⟩
theorem Cc.cells{s:EV}{l:List Nat}(r:Cc h s q 5 1 l.length (Bj l)):Pk h 1 l.length s=some (Bj l):=by
 rcases fB l.length with h0|d
 ·have:l = []:=bX.1 h0
  subst this;rcases r with⟨_,_,rfl|⟨b,rfl⟩⟩|⟨y,_⟩
  ·rfl
  ·rfl
  ·exact absurd y (bS _)
 ·exact(r.bs d).cells
theorem Azj{s:EV}(g:h.get P=some (.cells [s,.bool false] t))(r:Cc h s q 5 1 out.length (Bj out))(hb:HB h)(B:out.length<=60000):
 Ok (Oe K (.ptr P 0) h) fun v h'=>∃y q',v=.tuple [y,I 0]/\Cc h' y q' 5 1 out.length (Bj out)/\Ext h h'/\HB h'/\(0<out.length->h.next<=q'):=by
 simp only[Oe,Aa,C0 g rfl,Akp];rw[show Cd [(.int .u8 0)] 5 1 0 [] h=some (.slice h.next 0 0 0 false,h.new (.cells [] 5))from rfl,Aq];have d:Ext h (h.new (.cells [] 5)):=As.new _ _;have m:=d.at hb g;have j:Cc (h.new (.cells [] 5)) s q 5 1 out.length (Bj out):=r.frame fun y=>d.get _ (hb _ _ (r.block y)) id
 generalize h.new (.cells [] 5)=C at d m j⊢;simp only[Aa,C0 m rfl];refine(Yd (b:=h.next) (e:=5) j.len (by omega) j.cells (by rw[Bg,bk]) 0).Am ?_;rintro v h2 ⟨q',u,o,A⟩;refine .ret ⟨v,q',rfl,u,d.trans o,(d.trans o).hb hb,fun y=>?_⟩;have:=A y;have:=d.next
 omega
theorem A27(p:A3h h P t out false)(hb:HB h)(d:out.length<=60000):
 Ok (Oe K (.ptr P 0) h) fun v h'=>∃y q',v=.tuple [y,I 0]/\Cc h' y q' 5 1 out.length (Bj out)/\Ext h h'/\HB h'/\(0<out.length->h.next<=q'):=by
 obtain⟨s,q,g,r,_⟩:=p.Mw;exact Azj g r hb d
theorem Bvc(s:Nat):Vc 4 s = [s%256,s/256%256,s/65536%256,s/16777216%256]:=by
 simp[Vc,dJ]
theorem Bsq(a b c d:Int)(h:Ab):Cd [(.int .u8 0)] 5 1 4 [(0,.int .u8 a),(1,.int .u8 b),(2,.int .u8 c),(3,.int .u8 d)] h=some (.slice h.next 0 4 4 false,h.new (.cells [.int .u8 a,.int .u8 b,.int .u8 c,.int .u8 d] 5)):=rfl
theorem Bpo{l:List Nat}(O:10000<K)(s:Bs h x b off l)(hb:HB h)(Q:∀b∈l,b<256)(h0:0<l.length)(S:l.length<=5000):
 Ok (Yf K U0 x h) fun v h'=>∃q',Cc h' v q' 5 1 (l++Vc 4 (F2 l)).length (Bj (l++Vc 4 (F2 l)))/\Ext h h'/\HB h'/\h.next<=q':=by
 unfold U0;simp only[Yf,Aa];obtain⟨h1,T,g,U,_⟩:=nW h (.cells Be 119);rw[T];have d:=g.hb hb;rw[Cz U rfl,Aj P7];simp only[Gu];refine(A7n (K:=K) O (s.ext hb g) d Q S).Am ?_;rintro _ h2 ⟨rfl,m⟩;have o:=m.hb d;have s2:=(s.ext hb g).ext d m;rw[show Cd [(.int .u8 0)] 5 1 0 [] h2=some (.slice h2.next 0 0 0 false,h2.new (.cells [] 5))from rfl,Aq];have A:Ext h2 (h2.new (.cells [] 5)):=As.new _ _;have C:=s2.ext o A;have n3:(h2.new (.cells [] 5)).next=h2.next+1:=rfl
 generalize h2.new (.cells [] 5)=h3 at A C n3⊢;have D:=A.hb o;refine(Yd (b:=h2.next) (e:=5) C.len (by omega) C.cells (by rw[Bg,bk]) 0).Am ?_;rintro v h4 ⟨q',J,E,V⟩;have F:=E.hb D;rw[show ∀k:EV->R,Tq .u8 (Nk .u32 (F2 l)) k=k (Nk .u8 (F2 l%256))from fun k=>A0k];rw[show ∀k:EV->R,Ae8 (bin TT .shr 117) (Nk .u32 (F2 l)) (.int .u64 8) k=k (Nk .u32 (F2 l/256))from fun k=>Aws (s:=8) (by decide)];rw[show ∀k:EV->R,Tq .u8 (Nk .u32 (F2 l/256)) k=k (Nk .u8 (F2 l/256%256))from fun k=>A0k];rw[show ∀k:EV->R,Ae8 (bin TT .shr 117) (Nk .u32 (F2 l)) (.int .u64 16) k=k (Nk .u32 (F2 l/65536))from fun k=>Aws (s:=16) (by decide)];rw[show ∀k:EV->R,Tq .u8 (Nk .u32 (F2 l/65536)) k=k (Nk .u8 (F2 l/65536%256))from fun k=>A0k];rw[show ∀k:EV->R,Ae8 (bin TT .shr 117) (Nk .u32 (F2 l)) (.int .u64 24) k=k (Nk .u32 (F2 l/16777216))from fun k=>Aws (s:=24) (by decide)];rw[show ∀k:EV->R,Tq .u8 (Nk .u32 (F2 l/16777216)) k=k (Nk .u8 (F2 l/16777216%256))from fun k=>A0k];rw[Bsq,Aq];have B:Ext h4 (h4.new (.cells (Bj (Vc 4 (F2 l))) 5)):=As.new _ _;have e5:Bj (Vc 4 (F2 l)) = [Nk .u8 (F2 l%256),Nk .u8 (F2 l/256%256),Nk .u8 (F2 l/65536%256),Nk .u8 (F2 l/16777216%256)]:=by rw[Bvc];rfl
 rw[e5]at B;have L:Cc (h4.new (.cells [Nk .u8 (F2 l%256),Nk .u8 (F2 l/256%256),Nk .u8 (F2 l/65536%256),Nk .u8 (F2 l/16777216%256)] 5)) v q' 5 1 l.length (Bj l):=J.frame fun y=>B.get _ (F _ _ (J.block y)) id
 have M:(h4.new (.cells [Nk .u8 (F2 l%256),Nk .u8 (F2 l/256%256),Nk .u8 (F2 l/65536%256),Nk .u8 (F2 l/16777216%256)] 5)).get h4.next=some (.cells [Nk .u8 (F2 l%256),Nk .u8 (F2 l/256%256),Nk .u8 (F2 l/65536%256),Nk .u8 (F2 l/16777216%256)] 5):=Ad _ _
 have W:(h4.new (.cells [Nk .u8 (F2 l%256),Nk .u8 (F2 l/256%256),Nk .u8 (F2 l/65536%256),Nk .u8 (F2 l/16777216%256)] 5)).next=h4.next+1:=rfl
 generalize h4.new (.cells [Nk .u8 (F2 l%256),Nk .u8 (F2 l/256%256),Nk .u8 (F2 l/65536%256),Nk .u8 (F2 l/16777216%256)] 5)=G at B L M W⊢;have H:Pk G 1 4 (.slice h4.next 0 4 4 false)=some (Bj (Vc 4 (F2 l))):=by
  show Yq G h4.next 0 4=_
  unfold Yq Awy;rw[M,e5];rfl
 obtain⟨X,e6,Y,n6,Z⟩:=Aav L rfl (by decide) (by decide) (by omega) H (by rw[Bg,Hv]);rw[e6,Aq];have hq:=V h0;have u:Ext h X:=by
  refine((g.trans m).trans ((A.trans E).trans B)).then Z fun j hj aa=>?_
  have:=g.next;have:=m.next;have:=hj.2;omega
 refine .ret ⟨G.next,?_,u,u.hb hb,?_⟩
 ·rw[Avz,aG,Hv];exact Y
 ·have:=g.next;have:=m.next;have:=E.next;omega
theorem Btx(k:EV->R):J1 Alb (bin TT .neq t) (Nk .u8 a) (Nk .u8 b) k=k (.bool (decide (¬a=b))):=by
 show k (Alb .u8 (Int.ofNat a) (Int.ofNat b))=_;rw[Bf2,A0g,Awp];exact congrArg (fun b=>k (.bool b)) (eS.2 (not_congr ⟨Int.ofNat.inj,congrArg _⟩))
noncomputable def A98(l:List Nat):Bool:=decide (Vc 4 (F2 (l.take (l.length-4)))=l.drop (l.length-4))
def Br5(h:Ab)(l:List Nat)(v:EV)(h':Ab):Prop:=Ext h h'/\HB h'/\((A98 l=false/\v=.tuple [.Al,I 11])\/(A98 l=true/\∃y q',v=.tuple [y,I 0]/\Cc h' y q' 5 1 (l.take (l.length-4)).length (Bj (l.take (l.length-4)))/\h.next<=q'))
theorem Bhf {y:EV}{g:Nat}{l:List Nat}(h4:4<l.length)(W:l.length<=5000)(M:∀b∈l,b<256)(h0:Ab):∀(m i:Nat) (h:Ab),4-i<m->i<=4->HB h->Ext h0 h->Bs h x b off l->Bs h y b g (l.drop (l.length-4))->(∀j (hj:j<i),(l.drop (l.length-4))[j]? = some (F2 (l.take (l.length-4))/256^j%256)) ->
 Ok (Ob K m x (I ((l.length-4:Nat):Int)) (Nk .u32 (F2 (l.take (l.length-4))/256^i)) y (I 4) (I i) h) (Br5 h0 l):=by
 intro m;have hd:(l.drop (l.length-4)).length=4:=by rw[aU];omega
 have hs:=Bcb (l:=l.take (l.length-4)) fun b hb=>M b (bO hb)
 induction m with
 | zero=>intro i h hm;omega
 | succ m O=>
  intro i h hm X hb A F G hj;simp only[Ob,I,Ac,Aa];by_cases o:(i:Int)<4
  ·have d:i<(l.drop (l.length-4)).length:=by omega
   obtain⟨e1,e2⟩:=G.ix d;simp only[o,aB,Aa,Aii,e1,e2];rw[wrap_u8];rw[Btx];by_cases B:(l.drop (l.length-4))[i]=F2 (l.take (l.length-4))/256^i%256
   ·simp only[B,aC,aA,Aa,Ai3]
    rw[show ∀k:EV->R,Ae8 (bin TT .shr 117) (Nk .u32 (F2 (l.take (l.length-4))/256^i)) (.int .u64 8) k=k (Nk .u32 (F2 (l.take (l.length-4))/256^i/256))from fun k=>Aws (s:=8) (by decide)];simp only[Ai7,I,Ac];rw[Ci,eV,<-dU];refine O (i+1) h (by omega) (by omega) hb A F G fun j Q=>?_
    by_cases D:j=i
    ·subst D;rw[aH d,B]
    ·exact hj j (by omega)
   ·simp only[B,aE,aB,Aa]
    refine .ret ⟨A,hb,.inl ⟨aI fun y=>B ?_,rfl⟩⟩;have:=congrArg (fun z=>z[i]?) y;simp only[Vc]at this;rw[aH d,bA,cQ (by omega)]at this;exact(fV this).symm
  ·have:i=4:=by omega
   subst this;simp only[o,aA,Aa,Ajh];have S:A98 l=true:=aJ (by
    apply eE;intro j;by_cases u:j<4
    ·rw[hj j u];unfold Vc;rw[bA,cQ u];rfl
    ·rw[cF (by rw[Hv];omega),cF (by omega)])
   rw[show Cd [(.int .u8 0)] 5 1 0 [] h=some (.slice h.next 0 0 0 false,h.new (.cells [] 5))from rfl,Aq];have C:Ext h (h.new (.cells [] 5)):=As.new _ _;have H:=F.ext hb C;have n3:(h.new (.cells [] 5)).next=h.next+1:=rfl
   generalize h.new (.cells [] 5)=Y at C H n3⊢;have E:=C.hb hb;obtain⟨w,e3,J⟩:=H.take (n:=l.length-4) (by omega);rw[e3];refine(Yd (b:=h.next) (e:=5) J.len (by rw[bH];omega) J.cells (by rw[Bg,bk]) 0).Am ?_;rintro v T ⟨q',U,L,V⟩;refine .ret ⟨A.trans (C.trans L),L.hb E,.inr ⟨S,v,q',rfl,U,?_⟩⟩;have:=V (by rw[bH];omega);have:=A.next
   omega
theorem Bp0{r:Nat}{l:List Nat}(A:10000<K)(s:Bs h (.slice b off l.length r op) b off l)(hb:HB h)(u:∀b∈l,b<256)(h4:4<l.length)(B:l.length<=5000):
 Ok (Xr K U0 (.slice b off l.length r op) h) (Br5 h l):=by
 unfold U0;simp only[Xr,Aa];obtain⟨H,C,m,y,_⟩:=nW h (.cells Be 119);rw[C];have d:=m.hb hb;have s1:=s.ext hb m;have D:=d _ _ y;simp only[Ac];rw[Ci,show(l.length:Int)-4=((l.length-4:Nat):Int) by omega,show decide (((l.length-4:Nat):Int)<0)=false from aI (by omega)];simp only[Aa,Ai0,Cg D,Ar,Cz y rfl,Aj P7];obtain⟨w,e3,E⟩:=s1.take (n:=l.length-4) (by omega);rw[e3];refine Ok.bE (A7n (K:=K) A E.lift (Db d) (fun b hb=>u b (bO hb)) (by rw[bH];omega)) (fun _ _ p=>p.2) ?_;rintro _ h2 F ⟨rfl,_⟩ sm g;have o:=g.hb d;obtain⟨e5,G⟩:=(s1.ext d g).drop (n:=l.length-4) (by omega);rw[e5];simp only[Aa];have:=Bhf (K:=K) (x:=.slice b off l.length r op) h4 B u h K 0 F (by omega) (by decide) o (m.trans g) (s1.ext d g) G (fun j hj=>absurd hj (cn _));rw[Nat.pow_zero,Nat.div_one]at this;rw[show l.length-(l.length-4)=4 by omega]at this⊢;exact this
structure Rd(h:Ab)(R q off:Nat)(l:List Nat):Prop where
 Mw:∃s,h.get R=some (.cells [s,.bool false] 365)/\lenOf s=some l.length/\(0<l.length->s=.slice q off l.length l.length true/\Bs h s q off l)
 ne:q<R
theorem Rd.ext{R:Nat}{l:List Nat}(d:Rd h R q off l)(hb:HB h)(c:Ext h h'):Rd h' R q off l:=by
 obtain⟨s,g,e,f⟩:=d.Mw;exact⟨⟨s,c.at hb g,e,fun y=>⟨(f y).1,(f y).2.ext hb c⟩⟩,d.ne⟩
theorem Afb{l:List Nat}(s:Bs h x b off l)(hb:HB h)(h0:0<l.length)(C:l.length<=5000):
 Ok (Aas K x h) fun v h'=>∃R q,v=.ptr R 0/\Rd h' R q 0 l/\Ext h h'/\HB h'/\h.next<=q:=by
 simp only[Aas,dr];rw[show Cd [(.int .u8 0)] 5 1 0 [] h=some (.slice h.next 0 0 0 false,h.new (.cells [] 5))from rfl,Aq];have g:Ext h (h.new (.cells [] 5)):=As.new _ _;have s1:=s.ext hb g;generalize h.new (.cells [] 5)=D at g s1⊢;have j:=g.hb hb;refine(Yd (b:=h.next) (e:=5) s1.len (by omega) s1.cells (by rw[Bg,bk]) 0).Am ?_;rintro v h2 ⟨q',m,y,A⟩;have d:=y.hb j;have o:=m.slice h0;subst o;rw[Aw (l:=[.slice q' 0 l.length l.length true,.bool false]) rfl];simp only[Aa];have u:Ext h2 (h2.new (.cells [.slice q' 0 l.length l.length true,.bool false] 365)):=As.new _ _;have B:=(m.bs h0).ext d u;refine .ret ⟨h2.next,q',rfl,⟨⟨_,Ad _ _,rfl,fun _=>⟨rfl,B⟩⟩,d _ _ (m.block h0)⟩,g.trans (y.trans u),u.hb d,?_⟩;have:=A h0;have:=g.next
 omega
theorem A97{R:Nat}{l:List Nat}(d:Rd h R q off l)(hb:HB h)(h0:0<n)(A:n<=l.length):
 Ok (Kg K (.ptr R 0) (I n) h) fun v h'=>Bs h' v q off (l.take n)/\Rd h' R q (off+n) (l.drop n)/\As (fun i=>i=R) h h'/\HB h':=by
 obtain⟨s,g,e,f⟩:=d.Mw;obtain⟨rfl,s1⟩:=f (by omega);have u:=hb _ _ g;have B:R≠q:=by have:=d.ne;omega
 simp only[Kg,Aa,C0 g rfl,Ac,I];rw[show decide ((n:Int)<0)=false from aI (by omega)];simp only[Aa,Aco,Ac,C0 g rfl];rw[show decide ((l.length:Int)<(n:Int))=false from aI (by omega)];simp only[Aa,Acg,Abz,C0 g rfl];have e1:∀k:EV->Go.Ev.R,Ae2 1 (.slice q off l.length l.length true) none (some (.int .i64 (n:Int))) (some (.int .i64 (n:Int))) k=k (.slice q off n n false):=fun k=>by
  have:slc (.slice q off l.length l.length true) 1 none (some (.int .i64 (n:Int))) (some (.int .i64 (n:Int)))=some (.slice q off n n false):=by
   have b1:bound (some (.int .i64 (n:Int))) l.length 0=some n:=by
    show Ax (Nat.ble n l.length) (some n) none=_;rw[aO A,Ak]
   have b2:bound (some (.int .i64 (n:Int))) n 0=some n:=by
    show Ax (Nat.ble n n) (some n) none=_;rw[aO (aD _),Ak]
   unfold slc;simp only[b1,b2];show some (EV.slice q (Ax (Nat.beq n 0) off (Nat.add off (Nat.mul 0 1))) n n false)=_;rw[show Nat.add off (Nat.mul 0 1)=off from rfl];cases Nat.beq n 0<;>rfl
  unfold Ae2;rw[this];rfl
 rw[e1];obtain⟨L,G,o,row,f1,f0,f2,f3,f4,f5⟩:=s1.Mw;have j:(l.take n).length=n:=by rw[bH,dW A]
 have m:(l.drop n).length=l.length-n:=aU;have F:Bs h (.slice q off n n false) q off (l.take n):=by
  refine⟨n,false,o,row,by rw[j],by rw[j];exact aD _,f2,f3,by rw[j];omega,?_⟩;rw[j];have:=congrArg (fun z=>z.take n) f5;simp only[List.take_take,dW A]at this;rw[this];unfold Bj;rw[List.map_take]
 have put:∀w:EV,(h.put R (.cells [w,.bool false] 365)).get q=h.get q:=fun w=>Ae _ B
 rcases dL n l.length with C|H
 ·obtain⟨e2,s2⟩:=s1.drop C
  rw[e2];refine Ok.st1 g rfl rfl (by show 0<2;decide) ?_;refine .ret ⟨F.frame (put _),⟨⟨_,Af _ _ _,by rw[m];rfl,fun _=>⟨by rw[m],s2.frame (put _)⟩⟩,d.ne⟩,(As.refl (S:=fun i=>i=R) h).Ao (.inl rfl) u _,hb.put u _⟩
 ·have D:n=l.length:=by omega
  subst D;have e2:∀k:EV->Go.Ev.R,Ae2 1 (.slice q off l.length l.length true) (some (.int .i64 (l.length:Int))) none none k=k (.tail q (off+l.length) off):=fun k=>by
   have:slc (.slice q off l.length l.length true) 1 (some (.int .i64 (l.length:Int))) none none=some (.tail q (off+l.length) off):=by
    have b1:bound (some (.int .i64 (l.length:Int))) l.length 0=some l.length:=by
     show Ax (Nat.ble l.length l.length) (some l.length) none=_;rw[aO (aD _),Ak]
    have b2:bound none l.length l.length=some l.length:=rfl;unfold slc;simp only[b1,b2];rw[Ak];have z1:Nat.beq l.length 0=false:=by
     cases E:Nat.beq l.length 0 with
     | false=>rfl
     | true=>have:=aL E;omega
    have J:Nat.ble (Nat.succ l.length) l.length=false:=by
     cases E:Nat.ble (Nat.succ l.length) l.length with
     | false=>rfl
     | true=>have:=bB E;omega
    rw[z1,Bc,J,Bc,cI,Ak,Ak,show Nat.mul l.length 1=l.length from bk _];rfl
   unfold Ae2;rw[this];rfl
  rw[e2];refine Ok.st1 g rfl rfl (by show 0<2;decide) ?_;refine .ret ⟨F.frame (put _),⟨⟨_,Af _ _ _,by rw[m,fS];rfl,fun y=>by rw[m,fS]at y;exact absurd y (bS _)⟩,d.ne⟩,(As.refl (S:=fun i=>i=R) h).Ao (.inl rfl) u _,hb.put u _⟩
def Q5:List Nat->Nat
 | []=>0
 | b::r=>b+256*Q5 r
theorem A62:∀(a:List Nat) (b:Nat),Q5 (a++[b])=Q5 a+256^a.length*b
 | [],b=>by simp[Q5]
 | x::a,b=>by
  have:=A62 a b;simp only[List.cons_append,Q5,this,bK,dU];rw[Nat.mul_add,<-Nat.add_assoc,fT (256^a.length) 256,Nat.mul_assoc]
theorem A6e:∀(a:List Nat),(∀b∈a,b<256)->Q5 a<256^a.length
 | [],_=>by simp[Q5]
 | x::a,h=>by
  have d:=h x (aV ..);have h2:=A6e a fun b hb=>h b (aT _ hb)
  simp only[Q5,bK,dU];omega
theorem wrap_u64(a:Nat):Cx .u64 (Int.ofNat a)=Int.ofNat (a%18446744073709551616):=by
 rw[Nr];rfl
theorem Bpn {s:Nat}(hs:s<=64)(hb:a*2^s<9223372036854775808){k:EV->Go.Ev.R}:Ae8 (bin TT .shl t) (.int .i64 (Int.ofNat a)) (.int .u64 (Int.ofNat s)) k=k (Nk .i64 (a*2^s)):=by
 show k (.int .i64 (Cx .i64 (Int.mul (.ofNat a) (.ofNat (Nat.pow 2 (Ax (Nat.ble s 64) s 64))))))=_;rw[aO hs,Ak];have:Int.mul (.ofNat a) (.ofNat (Nat.pow 2 s))=((a*2^s:Nat):Int):=rfl;rw[this,Ci];rfl
theorem Bs2(h:a||| b<9223372036854775808){k:EV->Go.Ev.R}:Ae8 (bin TT .or t) (.int .i64 (Int.ofNat a)) (.int .i64 (Int.ofNat b)) k=k (Nk .i64 (a||| b)):=by
 show k (.int .i64 (Cx .i64 (.ofNat (Nat.lor a b))))=_;have:Int.ofNat (Nat.lor a b)=((a||| b:Nat):Int):=rfl;rw[this,Ci];rfl
theorem Blf{l:List Nat}(A:∀b∈l,b<256)(F:l.length<=7):∀(m i:Nat) (h:Ab),l.length-i<m->i<=l.length->Bs h x b off l ->
 Ko K m (Nk .i64 (Q5 (l.take i))) x (I l.length) (I i) h=some (Nk .i64 (Q5 l),h):=by
 intro m;induction m with
 | zero=>intro i h hm;omega
 | succ m D=>
  intro i h hm E s;simp only[Ko,I,Ac,Aa];by_cases j:(i:Int)<l.length
  ·have d:i<l.length:=by omega
   obtain⟨e1,e2⟩:=s.ix d;have hb:=A _ (av d);simp only[j,aB,Aa,Adl,e1,e2,Ac];have B:(256:Nat)^i=2^(8*i):=by rw[Nat.pow_mul]
   have g:(256:Nat)^i<=256^6:=eO (by decide) (by omega);have g:(256:Nat)^i<=281474976710656:=g;have hmul:l[i]*256^i<=255*281474976710656:=fm (by omega) g;rw[show Cx .i64 (Int.ofNat l[i])=Int.ofNat l[i]from Ci (by show _<=((l[i]:Nat):Int);omega) (by show((l[i]:Nat):Int)<=_;omega)];rw[show(8:Int)*(i:Int)=((8*i:Nat):Int) by omega,Ci];rw[show Cx .u64 ((8*i:Nat):Int)=Int.ofNat (8*i)from by have:=wrap_u64 (8*i);rw[fL (by omega)]at this;exact this];rw[Bpn (by omega) (by rw[<-B];omega)];have C:(l.take i).length=i:=by rw[bH,dW E]
   have o:Q5 (l.take i)<2^(8*i):=by
    have:=A6e (l.take i) fun b hb=>A b (bO hb)
    rw[C,B]at this;exact this
   have u:Q5 (l.take i)||| l[i]*2^(8*i)=Q5 (l.take (i+1)):=by
    rw[List.take_add_one,aH d];show _=Q5 (l.take i++[l[i]]);rw[A62,C,Nat.or_comm,fT l[i],<-Nat.two_pow_add_eq_or_of_lt o,B,Nat.add_comm]
   have y:Q5 (l.take (i+1))<9223372036854775808:=by
    have:=A6e (l.take (i+1)) fun b hb=>A b (bO hb)
    have h2:(256:Nat)^(l.take (i+1)).length<=256^7:=eO (by decide) (by rw[bH];omega);have G:(256:Nat)^7=72057594037927936:=by decide
    omega
   rw[Bs2 (by rw[u];exact y),u];simp only[Ad6,I,Ac];rw[Ci];exact D (i+1) h (by omega) (by omega) s
  ·have:i=l.length:=by omega
   subst this;simp only[j,aA,Aa,Aeg,cL]
theorem Lb{R w:Nat}{l:List Nat}(d:Rd h R q off l)(hb:HB h)(u:1000<K)(m:1<=w)(y:w<=7)(j:w<=l.length)(o:∀b∈l,b<256):
 Ok (Ew K (.ptr R 0) (I w) h) fun v h'=>v=Nk .i64 (Q5 (l.take w))/\Rd h' R q (off+w) (l.drop w)/\As (fun i=>i=R) h h'/\HB h':=by
 simp only[Ew,dr];rw[Ada,aJ ⟨by omega,by omega⟩];simp only[Aa,Aei];refine(A97 (K:=K) d hb m j).Am ?_;rintro v h2 ⟨s,d2,c2,g⟩;rw[s.Hf];have A:(l.take w).length=w:=by rw[bH,dW j]
 have:=Blf (K:=K) (l:=l.take w) (fun b hb=>o b (bO hb)) (by omega) K 0 h2 (by omega) (cU _) s;rw[show EV.int .i64 0=Nk .i64 (Q5 ((l.take w).take 0))from rfl];exact⟨_,_,this,rfl,d2,c2,g⟩
theorem A9x{R:Nat}{l:List Nat}(d:Rd h R q off l)(hb:HB h)(h0:0<n)(g:n<=l.length):
 Ok (L8 K (.ptr R 0) (I n) h) fun v h'=>Bs h' v q off (l.take n)/\Rd h' R q (off+n) (l.drop n)/\As (fun i=>i=R) h h'/\HB h':=by
 simp only[L8,dr];refine(A97 (K:=K) d hb h0 g).Am ?_;intro v h2 p;exact .ret p
theorem Brc{R:Nat}(d:Rd h R q off []):Sl K (.ptr R 0) h=some (I 0,h):=by
 obtain⟨s,g,e,f⟩:=d.Mw;simp only[Sl,Aa,C0 g rfl,Ac];have:∀k:EV->Go.Ev.R,Hf s k=k (I 0):=fun k=>by unfold Hf;rw[e];rfl
 rw[this];simp only[I,Ac];rfl
structure Fr where
 kind:Int
 An:Int
 off:Int
 Au:Int
 seq:Int
 body:List Nat
def Fr.cells(f:Fr):List EV:=[I f.kind,I f.An,I f.off,I f.Au,I f.seq]++Bj f.body
structure Fr.Wf(f:Fr):Prop where
 len:f.body.length=44
 u8:∀b∈f.body,b<256
def frB(f:Fr):Bool:=wi f.kind 1 5&&(wi f.An 0 65535&&(wi f.off 0 65535&&(wi f.Au 1 4294967295&&wi f.seq 0 281474976710655)))
theorem Q3(n a b:Int)(h:Ab):N6 K (.int .i64 n) (.int .i64 a) (.int .i64 b) h=some (.bool (wi n a b),h):=by
 simp only[N6,Ac,Aa];by_cases d:a<=n
 ·simp only[d,aB,Aa,Ac,Ade,wi,bD]
 ·simp only[d,aA,Aa,Ade,wi,ak]
theorem Fr.Ba {f:Fr}(w:f.Wf):f.cells.length=49:=by
 unfold Fr.cells;rw[aG,Bg,w.len];rfl
theorem Agm(f:Fr):Ok (Ke K (.agg f.cells) h) fun v h'=>v=.bool (frB f)/\Ext h h':=by
 simp only[Ke,Aa];obtain⟨y,j,d,g,_⟩:=nW h (.cells f.cells 247);rw[j];have l0:f.cells[0]? = some (I f.kind):=rfl;have l1:f.cells[1]? = some (I f.An):=rfl;have m:f.cells[2]? = some (I f.off):=rfl;have o:f.cells[3]? = some (I f.Au):=rfl;have u:f.cells[4]? = some (I f.seq):=rfl;simp only[C0 g rfl,Aa,l0,I,Q3,Ac];unfold frB;cases wi f.kind 1 5 with
 | false=>simp only[Aa,Ti,Nz,Ju,G7,Ac];exact .ret ⟨rfl,d⟩
 | true=>
 simp only[Aa,C0 g rfl,l1,I,Q3,Ac,Ti];cases wi f.An 0 65535 with
 | false=>simp only[Aa,Nz,Ju,G7,Ac];exact .ret ⟨rfl,d⟩
 | true=>
 simp only[Aa,C0 g rfl,m,I,Q3,Ac,Nz];cases wi f.off 0 65535 with
 | false=>simp only[Aa,Ju,G7,Ac];exact .ret ⟨rfl,d⟩
 | true=>
 simp only[Aa,C0 g rfl,o,I,Q3,Ac,Ju];cases wi f.Au 1 4294967295 with
 | false=>simp only[Aa,G7,Ac];exact .ret ⟨rfl,d⟩
 | true=>
 simp only[Aa,C0 g rfl,u,I,Q3,Ac,G7];exact .ret ⟨by simp only[bD],d⟩
def A6v(f:Fr):List Nat:=Vc 1 f.kind.toNat++Vc 1 1++Vc 2 f.An.toNat++Vc 2 f.off.toNat++Vc 4 f.Au.toNat++Vc 6 f.seq.toNat++f.body
noncomputable def Aar(f:Fr):List Nat:=A6v f++Vc 4 (F2 (A6v f))
theorem Aa1(w a:Nat):∀b∈Vc w a,b<256:=fun b hb=>by
 unfold Vc at hb;obtain⟨i,_,rfl⟩:=cY.1 hb;exact Nat.mod_lt _ (by decide)
theorem Awr {f:Fr}(w:f.Wf):(A6v f).length=60:=by
 unfold A6v;simp only[aG,Hv,w.len]
theorem Axl {f:Fr}(w:f.Wf):(Aar f).length=64:=by
 unfold Aar;rw[aG,Awr w,Hv]
theorem Bfq {f:Fr}(w:f.Wf):∀b∈A6v f,b<256:=fun b hb=>by
 unfold A6v at hb;simp only[bP]at hb;rcases hb with(((((hb|hb)|hb)|hb)|hb)|hb)|hb
 ·exact Aa1 _ _ b hb
 ·exact Aa1 _ _ b hb
 ·exact Aa1 _ _ b hb
 ·exact Aa1 _ _ b hb
 ·exact Aa1 _ _ b hb
 ·exact Aa1 _ _ b hb
 ·exact w.u8 b hb
theorem Bgk {f:Fr}(w:f.Wf):∀b∈Aar f,b<256:=fun b hb=>by
 unfold Aar at hb;rcases bP.1 hb with hb|hb
 ·exact Bfq w b hb
 ·exact Aa1 _ _ b hb
theorem Yn {w:Nat}{b:Int}(h0:0<=v)(hb:v<=b)(hw:b<(256^w:Nat)):fits w v=true:=aJ ⟨h0,by omega⟩
theorem Anc{f:Fr}(w:f.Wf)(hr:frB f=true)(hb:HB h)(hK:10000<K):
 Ok (Yu K U0 (.agg f.cells) h) fun v h'=>v=.tuple [.agg (Bj (Aar f)),I 0]/\Ext h h':=by
 have Z:=hr;simp only[frB,bL]at Z;obtain⟨r1,r2,r3,r4,r5⟩:=Z;obtain⟨a1,b1⟩:=On.1 r1;obtain⟨a2,b2⟩:=On.1 r2;obtain⟨a3,b3⟩:=On.1 r3;obtain⟨a4,b4⟩:=On.1 r4;obtain⟨a5,b5⟩:=On.1 r5;have l0:f.cells[0]? = some (I f.kind):=rfl;have l1:f.cells[1]? = some (I f.An):=rfl;have l2:f.cells[2]? = some (I f.off):=rfl;have l3:f.cells[3]? = some (I f.Au):=rfl;have l4:f.cells[4]? = some (I f.seq):=rfl;have aa:=Fr.Ba w;unfold U0;simp only[Yu,Aa];have x1:Ext h (((h.new (.cells Be 119)).new (.cells f.cells 247)).new (.cells Vl 30)):=((As.new _ _).Da _).Da _;have g2:(((h.new (.cells Be 119)).new (.cells f.cells 247)).new (.cells Vl 30)).get h.next=some (.cells Be 119):=by
  rw[Az _ (by show h.next<h.next+1+1;omega),Az _ (aR _)];exact Ad _ _
 have m:(((h.new (.cells Be 119)).new (.cells f.cells 247)).new (.cells Vl 30)).get (h.next+1)=some (.cells f.cells 247):=by
  rw[Az _ (by show h.next+1<h.next+1+1;omega)];exact Ad _ _
 have d:(((h.new (.cells Be 119)).new (.cells f.cells 247)).new (.cells Vl 30)).get (h.next+2)=some (.cells Vl 30):=Ad _ _;have n1:(((h.new (.cells Be 119)).new (.cells f.cells 247)).new (.cells Vl 30)).next=h.next+3:=rfl
 rw[show(h.new (.cells Be 119)).next=h.next+1 from rfl,show((h.new (.cells Be 119)).new (.cells f.cells 247)).next=h.next+2 from rfl,show List.replicate 64 (EV.int .u8 0)=Vl from rfl];generalize ((h.new (.cells Be 119)).new (.cells f.cells 247)).new (.cells Vl 30)=h1 at x1 g2 m d n1⊢;have F:=x1.hb hb;rw[Cz m rfl,Aj aa];simp only[Gu];refine(Agm (K:=K) f).Am ?_;rintro _ h2 ⟨rfl,W⟩;rw[hr];simp only[Aa,Ane];have G:=W.hb F;have ai:=x1.trans W;have g2:=W.at F g2;have m:=W.at F m;have d:=W.at F d;have n2:h.next+3<=h2.next:=by have:=W.next;omega
 have p0:A3h (h2.new (.cells [.Al,.bool false] 350)) h2.next 350 [] false:=⟨.Al,0,Ad _ _,.nil _ _ _ _,fun y=>absurd y (bS _)⟩
 have X:Ext h2 (h2.new (.cells [.Al,.bool false] 350)):=As.new _ _;have g2:=X.at G g2;have m:=X.at G m;have d:=X.at G d;have B:=X.hb G;have ab:=ai.trans X;generalize h2.new (.cells [.Al,.bool false] 350)=h3 at p0 X g2 m d B ab⊢;generalize hP:h2.next=P at p0 n2⊢
 have up:∀{Y hc:Ab},Ext h Y->As (fun i=>P<=i) Y hc->Ext h hc:=fun x c=>x.then c fun j hj hl=>by
  have hj:P<=j:=hj;omega
 have u:∀{Y hc:Ab} {i:Nat} {o:Ca},As (fun i=>P<=i) Y hc->HB Y->Y.get i=some o->i<P->hc.get i=some o:=fun c hb g hi=>c.at hb g (by omega)
 simp only[C0 m rfl,l0];simp only[Gu];refine(Lx (K:=K) (w:=1) (by omega) p0 B (by simp) (by decide) (by decide) (v:=f.kind) (by omega)).Am ?_;rintro _ h5 ⟨p,c,H⟩;rw[Yn (b:=5) (by omega) b1 (by decide),aQ rfl]at p;have x5:=up ab c;have g2:=u c B g2 (by omega);have m:=u c B m (by omega);have d:=u c B d (by omega);refine(Lx (K:=K) (w:=1) (by omega) p H (by simp[Hv]) (by decide) (by decide) (v:=1) (by omega)).Am ?_;rintro _ h6 ⟨p,c,J⟩;rw[Yn (b:=1) (by omega) (Int.le_refl _) (by decide),aQ rfl]at p;have x6:=up x5 c;have g2:=u c H g2 (by omega);have m:=u c H m (by omega);have d:=u c H d (by omega);simp only[Aa,C0 m rfl,l1];refine(Lx (K:=K) (w:=2) (by omega) p J (by simp[Hv]) (by decide) (by decide) (v:=f.An) (by omega)).Am ?_;rintro _ h7 ⟨p,c,L⟩;rw[Yn (b:=65535) a2 b2 (by decide),aQ rfl]at p;have x7:=up x6 c;have g2:=u c J g2 (by omega);have m:=u c J m (by omega);have d:=u c J d (by omega);simp only[Aa,C0 m rfl,l2];refine(Lx (K:=K) (w:=2) (by omega) p L (by simp[Hv]) (by decide) (by decide) (v:=f.off) (by omega)).Am ?_;rintro _ h8 ⟨p,c,M⟩;rw[Yn (b:=65535) a3 b3 (by decide),aQ rfl]at p;have x8:=up x7 c;have g2:=u c L g2 (by omega);have m:=u c L m (by omega);have d:=u c L d (by omega);simp only[Aa,C0 m rfl,l3];refine(Lx (K:=K) (w:=4) (by omega) p M (by simp[Hv]) (by decide) (by decide) (v:=f.Au) (by omega)).Am ?_;rintro _ h9 ⟨p,c,O⟩;rw[Yn (b:=4294967295) (by omega) b4 (by decide),aQ rfl]at p;have x9:=up x8 c;have g2:=u c M g2 (by omega);have m:=u c M m (by omega);have d:=u c M d (by omega);simp only[Aa,C0 m rfl,l4];refine(Lx (K:=K) (w:=6) (by omega) p O (by simp[Hv]) (by decide) (by decide) (v:=f.seq) (by omega)).Am ?_;rintro _ ae ⟨p,c,C⟩;rw[Yn (b:=281474976710655) a5 b5 (by decide),aQ rfl]at p;have aj:=up x9 c;have g2:=u c O g2 (by omega);have m:=u c O m (by omega);have d:=u c O d (by omega)
 try simp only[Aa]
 rw[show ∀k:EV->R,N1 44 1 (.ptr (h.next+1) 5) none none none k=k (.slice (h.next+1) 5 44 44 false)from fun k=>rfl];have al:Pk ae 1 44 (.slice (h.next+1) 5 44 44 false)=some (Bj f.body):=by
  show Yq ae (h.next+1) 5 44=_;unfold Yq Awy;rw[m];show Mu f.cells 5 44=_;rw[E7 (by rw[aa];decide)];show some (List.take 44 (Bj f.body))=_;rw[bR (by rw[Bg,w.len];decide)]
 refine(Avo (K:=K) (n:=44) p C (by simp[Hv]) rfl (by decide) (by decide) al w.len).Am ?_;rintro _ ca ⟨p,c,D⟩;have ao:=up aj c;have g2:=u c C g2 (by omega);have d:=u c C d (by omega);have ep:([]++Vc 1 f.kind.toNat++Vc 1 (1:Int).toNat++Vc 2 f.An.toNat++Vc 2 f.off.toNat++Vc 4 f.Au.toNat++Vc 6 f.seq.toNat++f.body)=A6v f:=by
  unfold A6v;rw[dN];rfl
 have af:∀b:Bool,(b||!true)=b:=by decide
 rw[ep]at p;simp only[af]at p;refine(A27 (K:=K) p D (by rw[Awr w];decide)).Am ?_;rintro _ cb ⟨y,q',rfl,ry,E,S,lq⟩;have g2:=E.at D g2;have d:=E.at D d;simp only[Aa,I,Ac];simp only[aC,aA,Aa,Ana];rw[Cz g2 rfl,Aj P7];simp only[Gu];have T:0<(A6v f).length:=by rw[Awr w];decide
 refine(Bpo (K:=K) hK (ry.bs T) S (Bfq w) T (by rw[Awr w];decide)).Am ?_;rintro v V ⟨q2,Q,U,ag,cf⟩;have Q:Cc V v q2 5 1 (Aar f).length (Bj (Aar f)):=Q;have d:=U.at S d;have A:=Axl w;have au:=Q.slice (by rw[A];decide);subst au;rw[show ∀k:EV->R,A0p 64 (.slice q2 0 (Aar f).length (Aar f).length true) k=k (.ptr q2 0)from fun k=>by rw[A];rfl];rw[Cz (Q.block (by rw[A];decide)) rfl,Aj (by rw[Bg,A])];simp only[Gu];refine Ok.st (Bj (Aar f)) d rfl (by show Fl (Bj (Aar f))=64;rw[Bf,Bg,A]) (Bl (by rw[Ku];show 64=(Bj (Aar f)).length;rw[Bg,A])) ?_;have aw:(V.put (h.next+2) (.cells (Bj (Aar f)) 30)).get (h.next+2)=some (.cells (Bj (Aar f)) 30):=Af _ _ _;rw[Ea aw Az3.1 Az3.2 (by rw[Bg,A])];have xx:Ext h V:=ao.trans (E.trans U);exact .ret ⟨rfl,xx.Ao (.inr (by omega)) (ag _ _ d) _⟩
variable {f:Fr}
theorem Ok.A20{o:Nat}{l:List EV}{v:EV}{kk:Ab->R}{Q:EV->Ab->Prop}(d:h.get i=some (.cells l t))(hb:HB h)(g:v.plain=true)(m:v.cells = [v])(u:o<l.length)
 (y:∀h',h'.get i=some (.cells (l.set o v) t)->As (fun j=>j=i) h h'->HB h'->Ok (kk h') Q):Ok (stE 1 (.ptr i o) v h kk) Q:=by
 have lt:=hb _ _ d;exact Ok.st1 d g m u (y _ (Af _ _ _) ((As.refl (S:=fun j=>j=i) h).Ao (.inl rfl) lt _) (hb.put lt _))
theorem Ak4:∀(hd Cv new:List EV),Cv.length=new.length->Fm (hd++Cv) hd.length new=some (hd++new)
 | [],Cv,new,h=>by
  have:=Bl (l:=Cv) (vs:=new) h;rw[Vq]at this;exact this
 | a::hd,Cv,new,h=>by
  have d:=Ak4 hd Cv new h;show Ax (Nat.beq (hd.length+1) 0) _ (match Fm (hd++Cv) hd.length new with|some x=>some (a::x)|none=>none)=_;rw[show Nat.beq (hd.length+1) 0=false from rfl,Bc,d];rfl
theorem A8m{r:Nat}{t:TypeId}{hd Cv new:List EV}{y:EV}(g:h.get i=some (.cells (hd++Cv) t))(m:lenOf y=some n)(o:0<n)(j:Pk h 1 n y=some new)(u:new.length=n)(A:Cv.length=n):
 builtin TT .copy #[184,184] [.slice i hd.length n r op,y] h=some (I n,h.put i (.cells (hd++new) t)):=by
 have hu:TT.Ui 184=some (.slice 5):=by kernel_rfl
 have hs:TT.size 5=some 1:=by kernel_rfl
 have hb:Nat.ble n n=true:=aO (aD _);have h0:Nat.beq n 0=false:=by cases n with|zero=>omega|succ n=>rfl
 have hw:Mp h i hd.length new=some (h.put i (.cells (hd++new) t)):=by
  unfold Mp;rw[g];simp only;rw[Ak4 hd Cv new (by omega)]
 rw[Ars]at j;have d:lenOf (.slice i hd.length n r op)=some n:=rfl;unfold builtin;simp only[hu,hs,d,m,hb,Ak,h0,Bc,j,hw];rfl
theorem Rd.chg{R:Nat}{l:List Nat}{S:Nat->Prop}(d:Rd h R q off l)(hb:HB h)(c:As S h h')(j:¬S q)(m:¬S R):Rd h' R q off l:=by
 obtain⟨s,g,e,f⟩:=d.Mw;exact⟨⟨s,c.at hb g m,e,fun y=>⟨(f y).1,(f y).2.frame (c.get _ ((f y).2.lt hb) j)⟩⟩,d.ne⟩
def Fr.zero:Fr:=⟨0,0,0,0,0,List.replicate 44 0⟩
theorem Fr.H2:List.replicate 5 (EV.int .i64 0)++List.replicate 44 (EV.int .u8 0)=Fr.zero.cells:=by kernel_rfl
def Ain(p:List Nat):Fr:=⟨Q5 (p.take 1),Q5 (((p.drop 1).drop 1).take 2),Q5 ((((p.drop 1).drop 1).drop 2).take 2),Q5 (((((p.drop 1).drop 1).drop 2).drop 2).take 4),Q5 ((((((p.drop 1).drop 1).drop 2).drop 2).drop 4).take 6),(((((((p.drop 1).drop 1).drop 2).drop 2).drop 4).drop 6).take 44)⟩
noncomputable def Aan(s:List Nat):Fr × Int:=
 if A98 s=false then(Fr.zero,11)else
 if Q5 (((s.take 60).drop 1).take 1)=1/\frB (Ain (s.take 60))=true then(Ain (s.take 60),0)else(Fr.zero,10)
theorem A5l:TT.size 247=some 49/\TT.agg 247=some true:=⟨by kernel_rfl,by kernel_rfl⟩
theorem A2s(d:p.length=60)(hu:∀b∈p,b<256):(Ain p).Wf:=by
 refine⟨?_,fun b hb=>hu b ?_⟩
 ·simp only[Ain,bH,aU,d];decide
 ·simp only[Ain]at hb
  exact aF (aF (aF (aF (aF (aF (bO hb))))))
theorem Fr.Gp:Fr.zero.Wf:=⟨by simp[Fr.zero],fun b hb=>by rw[bc hb];decide⟩
theorem Brv {s:List Nat}(d:s.length=64)(hu:∀b∈s,b<256):(Aan s).1.Wf:=by
 unfold Aan;split
 ·exact Fr.Gp
 ·split
  ·exact A2s (by rw[bH,d];decide) fun b hb=>hu b (bO hb)
  ·exact Fr.Gp
theorem Az1{s:List Nat}(hl:s.length=64)(hu:∀b∈s,b<256)(hb:HB h)(hK:10000<K):
 Ok (Ae4 K U0 (.agg (Bj s)) h) fun v h'=>v=.tuple [.agg (Aan s).1.cells,I (Aan s).2]/\Ext h h':=by
 unfold U0;simp only[Ae4,Aa];rw[Fr.H2];have x1:Ext h (((h.new (.cells Be 119)).new (.cells (Bj s) 30)).new (.cells Fr.zero.cells 247)):=((As.new _ _).Da _).Da _;have g2:(((h.new (.cells Be 119)).new (.cells (Bj s) 30)).new (.cells Fr.zero.cells 247)).get h.next=some (.cells Be 119):=by
  rw[Az _ (by show h.next<h.next+1+1;omega),Az _ (aR _)];exact Ad _ _
 have g3:(((h.new (.cells Be 119)).new (.cells (Bj s) 30)).new (.cells Fr.zero.cells 247)).get (h.next+1)=some (.cells (Bj s) 30):=by
  rw[Az _ (by show h.next+1<h.next+1+1;omega)];exact Ad _ _
 have u:(((h.new (.cells Be 119)).new (.cells (Bj s) 30)).new (.cells Fr.zero.cells 247)).get (h.next+2)=some (.cells Fr.zero.cells 247):=Ad _ _;have n1:(((h.new (.cells Be 119)).new (.cells (Bj s) 30)).new (.cells Fr.zero.cells 247)).next=h.next+3:=rfl
 rw[show(h.new (.cells Be 119)).next=h.next+1 from rfl,show((h.new (.cells Be 119)).new (.cells (Bj s) 30)).next=h.next+2 from rfl];generalize ((h.new (.cells Be 119)).new (.cells (Bj s) 30)).new (.cells Fr.zero.cells 247)=h1 at x1 g2 g3 u n1⊢;have aj:=x1.hb hb;have di:=aj _ _ g2;have zl:=Fr.Ba Fr.Gp;have fin:∀(f:Fr) (e:Int) (h5:Ab) (kk:Ab->R),(∀h',kk h'=Ij TT [.c (.ptr (h.next+2) 0) 247,.v (I e)] h')->HB h5->Ext h h5->h5.get (h.next+2)=some (.cells Fr.zero.cells 247)->f.Wf->(f,e)=Aan s ->
  Ok (stE 49 (.ptr (h.next+2) 0) (.agg f.cells) h5 kk) fun v h'=>v=.tuple [.agg (Aan s).1.cells,I (Aan s).2]/\Ext h h':=by
  intro f e h5 kk dj Y x5 g5 wf he;have fl:=Fr.Ba wf;refine Ok.st f.cells g5 rfl (by show Fl f.cells=49;rw[Bf,fl]) (Bl (by rw[zl];exact fl.symm)) ?_;have g6:(h5.put (h.next+2) (.cells f.cells 247)).get (h.next+2)=some (.cells f.cells 247):=Af _ _ _;rw[dj,Ea g6 A5l.1 A5l.2 fl,<-he];exact .ret ⟨rfl,x5.Ao (.inr (by omega)) (Y _ _ g5) _⟩
 simp only[Cg di,Ar,Aa,Cz g2 rfl,Aj P7];rw[show ∀k:EV->R,N1 64 1 (.ptr (h.next+1) 0) none none none k=k (.slice (h.next+1) 0 64 64 false)from fun k=>rfl];have bs:Bs h1 (.slice (h.next+1) 0 s.length 64 false) (h.next+1) 0 s:=by
  refine⟨64,false,_,Bj s,rfl,by omega,g3,rfl,by rw[Bg];omega,?_⟩;rw[dE,<-Bg,cL]
 have b7:=Bp0 (K:=K) hK bs.lift (Db aj) hu (by omega) (by omega);rw[hl]at b7;refine Ok.bE b7 (fun _ _ p=>p.1) ?_;rintro v h2 h3 ⟨_,_,hv⟩ sm x3;have a5:=x3.hb aj;have u:=x3.at aj u;have b8:=x1.trans x3;rcases hv with⟨ho,rfl⟩|⟨ho,y,q',rfl,ry,lq⟩
 ·simp only[Aa,I,Ac]
  simp only[show ¬((11:Int)=0) by decide,aE,aB,Aa];rw[Aw (l:=Fr.zero.cells) rfl];exact fin Fr.zero 11 h3 _ (fun _=>rfl) a5 b8 u Fr.Gp (by unfold Aan;rw[aQ ho])
 ·have dt:¬A98 s=false:=by rw[ho];simp
  simp only[Aa,I,Ac];simp only[aC,aA,Aa,An1];have du:s.length-4=60:=by omega
  rw[du]at ry;have ca:(s.take 60).length=60:=by rw[bH,hl];decide
  have J:∀b∈s.take 60,b<256:=fun b hb=>hu b (bO hb)
  have cb:Cc h3 y q' 5 1 (s.take 60).length (Bj (s.take 60)):=ry.frame fun _=>sm.get _
  have Z:Aan s=if Q5 (((s.take 60).drop 1).take 1)=1/\frB (Ain (s.take 60))=true then(Ain (s.take 60),0)else(Fr.zero,10):=by unfold Aan;rw[aM dt]
  have F:=A2s ca J;rw[Z]at fin⊢;unfold Ain at fin Z F⊢;generalize s.take 60=p at cb ca J fin Z F⊢;refine(Afb (K:=K) (cb.bs (by omega)) a5 (by omega) (by omega)).Am ?_;rintro _ h5 ⟨W,q,rfl,d0,x5,Y,fc⟩;have u:=x5.at a5 u;have dw:=b8.trans x5;have fe:W<h5.next:=by obtain⟨_,g,_⟩:=d0.Mw;exact Y _ _ g
  have ff:h.next+2<W:=by have:=d0.ne;have:=x3.next;omega
  have up:∀{L Q:Ab},Ext h L->As (fun i=>i=W) L Q->Ext h Q:=fun x c=>x.then c fun j hj dx=>by
   have hj:j=W:=hj;omega
  have m:∀{L Q:Ab} {i:Nat} {o:Ca},As (fun i=>i=W) L Q->HB L->L.get i=some o->i≠W->Q.get i=some o:=fun c hb g hi=>c.at hb g hi
  refine(Lb (K:=K) (w:=1) d0 Y (by omega) (by decide) (by decide) (by omega) J).Am ?_;rintro _ h6 ⟨rfl,d1,c6,a6⟩;have u:=m c6 Y u (by omega);have x6:=up dw c6;rw[Aw (l:=(⟨Q5 (p.take 1),0,0,0,0,List.replicate 44 0⟩:Fr).cells) rfl]
  try simp only[Aa]
  rw[Fr.H2];have x7:Ext h6 (h6.new (.cells Fr.zero.cells 247)):=As.new _ _;have A:(h6.new (.cells Fr.zero.cells 247)).get h6.next=some (.cells Fr.zero.cells 247):=Ad _ _
  have n7:(h6.new (.cells Fr.zero.cells 247)).next=h6.next+1:=rfl
  have u:=x7.at a6 u;have ao:=x7.hb a6;have d1:=d1.ext a6 x7;have cf:=x6.trans x7;have hF:W<h6.next:=by have:=c6.next;omega
  generalize h6.new (.cells Fr.zero.cells 247)=h7 at x7 A n7 u ao d1 cf⊢;generalize h6.next=C at A n7 hF⊢
  refine Ok.st (⟨Q5 (p.take 1),0,0,0,0,List.replicate 44 0⟩:Fr).cells A rfl (by kernel_rfl) (Bl (by kernel_rfl)) ?_;have lF:=ao _ _ A;have A:(h7.put C (.cells (⟨Q5 (p.take 1),0,0,0,0,List.replicate 44 0⟩:Fr).cells 247)).get C=some (.cells (⟨Q5 (p.take 1),0,0,0,0,List.replicate 44 0⟩:Fr).cells 247):=Af _ _ _;have u:(h7.put C (.cells (⟨Q5 (p.take 1),0,0,0,0,List.replicate 44 0⟩:Fr).cells 247)).get (h.next+2)=some (.cells Fr.zero.cells 247):=by rw[Ae _];exact u
  have d1:Rd (h7.put C (.cells (⟨Q5 (p.take 1),0,0,0,0,List.replicate 44 0⟩:Fr).cells 247)) W q (0+1) (p.drop 1):=by
   have c:As (fun i=>i=C) h7 (h7.put C (.cells (⟨Q5 (p.take 1),0,0,0,0,List.replicate 44 0⟩:Fr).cells 247)):=(As.refl (S:=fun i=>i=C) h7).Ao (.inl rfl) lF _;exact d1.chg ao c (by have:=d1.ne;intro y;omega) (by intro y;omega)
  have x8:Ext h (h7.put C (.cells (⟨Q5 (p.take 1),0,0,0,0,List.replicate 44 0⟩:Fr).cells 247)):=cf.Ao (.inr (by omega)) lF _;have aq:=ao.put lF (.cells (⟨Q5 (p.take 1),0,0,0,0,List.replicate 44 0⟩:Fr).cells 247);generalize h7.put C (.cells (⟨Q5 (p.take 1),0,0,0,0,List.replicate 44 0⟩:Fr).cells 247)=h8 at A u d1 x8 aq⊢;refine(Lb (K:=K) (w:=1) d1 aq (by omega) (by decide) (by decide) (by simp only[aU];omega) (fun b hb=>J b (by revert hb;exact fun y=>aF y))).Am ?_;rintro _ h9 ⟨rfl,d2,c9,a7⟩;have u:=m c9 aq u (by omega);have A:=m c9 aq A (by omega);have x9:=up x8 c9;refine(Lb (K:=K) (w:=2) d2 a7 (by omega) (by decide) (by decide) (by simp only[aU];omega) (fun b hb=>J b (aF (aF hb)))).Am ?_;rintro _ fj ⟨rfl,d3,a8,aa⟩;have u:=m a8 a7 u (by omega);have A:=m a8 a7 A (by omega);have dD:=up x9 a8;refine(Lb (K:=K) (w:=2) d3 aa (by omega) (by decide) (by decide) (by simp only[aU];omega) (fun b hb=>J b (aF (aF (aF hb))))).Am ?_;rintro _ fk ⟨rfl,d4,bb,ab⟩;have u:=m bb aa u (by omega);have A:=m bb aa A (by omega);have dT:=up dD bb;refine(Lb (K:=K) (w:=4) d4 ab (by omega) (by decide) (by decide) (by simp only[aU];omega) (fun b hb=>J b (aF (aF (aF (aF hb)))))).Am ?_;rintro _ fp ⟨rfl,d5,bf,ad⟩;have u:=m bf ab u (by omega);have A:=m bf ab A (by omega);have ea:=up dT bf;refine(Lb (K:=K) (w:=6) d5 ad (by omega) (by decide) (by decide) (by simp only[aU];omega) (fun b hb=>J b (aF (aF (aF (aF (aF hb))))))).Am ?_;rintro _ fs ⟨rfl,d6,bj,ae⟩;have u:=m bj ad u (by omega);have A:=m bj ad A (by omega);have ch:=up ea bj;have af:∀{L Q:Ab},Ext h L->As (fun i=>i=C) L Q->Ext h Q:=fun x c=>x.then c fun j hj dx=>by
   have hj:j=C:=hj;omega
  have D:∀{L Q:Ab} {i:Nat} {o:Ca},As (fun i=>i=C) L Q->HB L->L.get i=some o->i≠C->Q.get i=some o:=fun c hb g hi=>c.at hb g hi
  have E:∀{L Q:Ab} {off:Nat} {l:List Nat},As (fun i=>i=C) L Q->HB L->Rd L W q off l->Rd Q W q off l:=fun c hb d=>d.chg hb c (by have:=d.ne;intro y;omega) (by intro y;omega)
  have hz:(⟨Q5 (p.take 1),0,0,0,0,List.replicate 44 0⟩:Fr).cells.length=49:=by kernel_rfl
  refine Ok.A20 A ae rfl rfl (by rw[hz];decide) ?_;intro ft A bn ag;have u:=D bn ae u (by omega);have d6:=E bn ae d6;have eb:=af ch bn
  try simp only[Aa]
  refine Ok.A20 A ag rfl rfl (by rw[bV,hz];decide) ?_;intro fu A bo ah;have u:=D bo ag u (by omega);have d6:=E bo ag d6;have cw:=af eb bo
  try simp only[Aa]
  refine Ok.A20 A ah rfl rfl (by rw[bV,bV,hz];decide) ?_;intro fv A bp ai;have u:=D bp ah u (by omega);have d6:=E bp ah d6;have ec:=af cw bp
  try simp only[Aa]
  refine Ok.A20 A ai rfl rfl (by rw[bV,bV,bV,hz];decide) ?_;intro cx A bt T;have u:=D bt ai u (by omega);have d6:=E bt ai d6;have cA:=af ec bt
  try simp only[Aa]
  have A:cx.get C=some (.cells ([Nk .i64 (Q5 (p.take 1)),Nk .i64 (Q5 (((p.drop 1).drop 1).take 2)),Nk .i64 (Q5 ((((p.drop 1).drop 1).drop 2).take 2)),Nk .i64 (Q5 (((((p.drop 1).drop 1).drop 2).drop 2).take 4)),Nk .i64 (Q5 ((((((p.drop 1).drop 1).drop 2).drop 2).drop 4).take 6))]++Bj (List.replicate 44 0)) 247):=A;rw[show ∀k:EV->R,N1 44 1 (.ptr C 5) none none none k=k (.slice C 5 44 44 false)from fun k=>rfl];have B:((((((p.drop 1).drop 1).drop 2).drop 2).drop 4).drop 6).length=44:=by simp only[aU];omega
  have dl:Rd cx.lift W q (0+1+1+2+2+4+6) ((((((p.drop 1).drop 1).drop 2).drop 2).drop 4).drop 6):=d6.chg T (S:=fun _=>False) ⟨fun i _ _=>Br _ _,aD _,fun w _ w2 _=>w2,fun y=>Db y⟩ id id;refine Ok.bC (S:=fun i=>i=W) (A9x (K:=K) (n:=44) dl (Db T) (by decide) (by omega)) (fun _ _ p=>p.2.2.1) ?_;rintro bu ey M s' ⟨X,d7,_,bw⟩ U bx bz;have V:=U.hb bw;have X:Bs M bu q (0+1+1+2+2+4+6) (((((((p.drop 1).drop 1).drop 2).drop 2).drop 4).drop 6).take 44):=X.frame (U.get _);have d7:Rd M W q (0+1+1+2+2+4+6+44) (((((((p.drop 1).drop 1).drop 2).drop 2).drop 4).drop 6).drop 44):=by
   obtain⟨s0,g,e,f⟩:=d7.Mw;exact⟨⟨s0,by rw[U.get];exact g,e,fun y=>⟨(f y).1,(f y).2.frame (U.get _)⟩⟩,d7.ne⟩
  have u:=m bx T u (by omega);have A:=m bx T A (by omega);have ed:=up cA bx;generalize fw:(((((p.drop 1).drop 1).drop 2).drop 2).drop 4).drop 6=body at X d7 B fin F⊢;generalize hq:Q5 ((p.drop 1).take 1)=au at fin⊢;generalize Q5 (p.take 1)=na at A fin F⊢;generalize Q5 (((p.drop 1).drop 1).take 2)=nz at A fin F⊢;generalize Q5 ((((p.drop 1).drop 1).drop 2).take 2)=no at A fin F⊢;generalize Q5 (((((p.drop 1).drop 1).drop 2).drop 2).take 4)=ne at A fin F⊢;generalize Q5 ((((((p.drop 1).drop 1).drop 2).drop 2).drop 4).take 6)=ns at A fin F⊢;have ee:body.take 44=body:=bR (by omega);rw[ee]at X fin F⊢;have ef:body.drop 44 = []:=List.drop_eq_nil_of_le (by omega);rw[ef]at d7;have hlen:lenOf bu=some 44:=by have:=X.len;rw[B]at this;exact this
  have cB:Pk M.lift 1 44 bu=some (Bj body):=by have:=X.lift.cells;rw[B]at this;exact this
  have ei:=A8m (h:=M.lift) (i:=C) (n:=44) (r:=44) (op:=false) (t:=247) (hd:=[Nk .i64 na,Nk .i64 nz,Nk .i64 no,Nk .i64 ne,Nk .i64 ns]) (Cv:=Bj (List.replicate 44 0)) (by rw[Br];exact A) hlen (by decide) cB (by rw[Bg,B]) (by rw[Bg,bT]);have cG:=V _ _ A;refine Ok.Blb (S:=fun i=>i=C) (by rcases bz with rfl|⟨w,rfl,_⟩<;>kernel_rfl) (by rcases bz with rfl|⟨w,rfl,_⟩<;>kernel_rfl) (fun w=>by rcases bz with rfl|⟨w,rfl,_⟩<;>kernel_rfl) (P:=fun v h'=>h'=M.lift.put C (.cells ([Nk .i64 na,Nk .i64 nz,Nk .i64 no,Nk .i64 ne,Nk .i64 ns]++Bj body) 247)) ⟨_,_,ei,rfl⟩ (fun _ _ p=>by rw[p];exact(As.refl (S:=fun i=>i=C) M.lift).Ao (.inl rfl) (show C<M.lift.next from cG) _) ?_;rintro fx ez b5 s2 rfl c7 aw _;have H:=aw.hb V;have A:b5.get C=some (.cells ([Nk .i64 na,Nk .i64 nz,Nk .i64 no,Nk .i64 ne,Nk .i64 ns]++Bj body) 247):=by rw[c7.get];exact Af _ _ _
  have u:=D aw V u (by omega);have d7:=E aw V d7;have c8:=af ed aw;simp only[Ac];have cl:([Nk .i64 na,Nk .i64 nz,Nk .i64 no,Nk .i64 ne,Nk .i64 ns]++Bj body).length=49:=by rw[aG,Bg,B];rfl
  have bad:∀O:Ab,Ext b5 O->¬(au=1/\frB ⟨na,nz,no,ne,ns,body⟩=true)->∀w:EV,Ok (Vx K (.ptr (h.next+2) 0) (.ptr C 0) (.bool true) w O) _:=fun O G ej w=>by
   simp only[Vx,Aa];rw[Aw (l:=Fr.zero.cells) rfl];exact fin Fr.zero 10 O _ (fun _=>rfl) (G.hb H) (c8.trans G) (G.at H u) Fr.Gp (by rw[aM ej])
  by_cases hv:au=1
  ·rw[show decide (¬Int.ofNat au=1)=false from aI (by rw[hv];exact fun y=>y rfl)]
   simp only[Aa];rw[Cz A rfl,Aj cl];simp only[Gu];refine(Agm (K:=K) ⟨na,nz,no,ne,ns,body⟩).Am ?_;rintro _ O ⟨rfl,G⟩;generalize frB ⟨na,nz,no,ne,ns,body⟩=fb at fin bad⊢;cases fb with
   | false=>
    simp only[Aa,Vu,Ac];exact bad O G (by simp) _
   | true=>
    have da:=G.hb H;simp only[Aa,Vu,Ac,Brc (d7.ext H G),I];simp only[Vx,Aa,aC,aA,An3];rw[Cz (G.at H A) rfl,Aj cl];simp only[Gu];have r:=fin ⟨na,nz,no,ne,ns,body⟩ 0 O (fun z=>Ij TT [RV.c (EV.ptr (h.next+2) 0) 247,RV.v (EV.int IntKind.i64 0)] z) (fun _=>rfl) da (c8.trans G) (G.at H u) F (by rw[aQ ⟨hv,rfl⟩]);simp only[eq_self]at r;exact r
  ·rw[show decide (¬Int.ofNat au=1)=true from aJ fun y=>hv (Int.ofNat.inj y)]
   simp only[Aa,Vu,Ac];exact bad b5 (As.refl _) (fun y=>hv y.1) _
noncomputable def atF(s:List Nat)(An off:Int):Fr × Int:=
 if ¬(Aan s).2=0 then(Fr.zero,(Aan s).2)else if ¬(Aan s).1.An=An\/¬(Aan s).1.off=off then(Fr.zero,12)else((Aan s).1,0)
theorem Ay3{s:List Nat}(H:s.length=64)(hu:∀b∈s,b<256)(hb:HB h)(W:10000<K)(An off:Int):
 Ok (Ao7 K U0 (.agg (Bj s)) (I An) (I off) h) fun v h'=>v=.tuple [.agg (atF s An off).1.cells,I (atF s An off).2]/\(atF s An off).1.Wf/\Ext h h':=by
 unfold U0;simp only[Ao7,Aa];rw[Fr.H2];have J:Ext h (((h.new (.cells Be 119)).new (.cells (Bj s) 30)).new (.cells Fr.zero.cells 247)):=((As.new _ _).Da _).Da _;have g2:(((h.new (.cells Be 119)).new (.cells (Bj s) 30)).new (.cells Fr.zero.cells 247)).get h.next=some (.cells Be 119):=by
  rw[Az _ (by show h.next<h.next+1+1;omega),Az _ (aR _)];exact Ad _ _
 have Q:(((h.new (.cells Be 119)).new (.cells (Bj s) 30)).new (.cells Fr.zero.cells 247)).get (h.next+1)=some (.cells (Bj s) 30):=by
  rw[Az _ (by show h.next+1<h.next+1+1;omega)];exact Ad _ _
 have d:(((h.new (.cells Be 119)).new (.cells (Bj s) 30)).new (.cells Fr.zero.cells 247)).get (h.next+2)=some (.cells Fr.zero.cells 247):=Ad _ _;have X:(((h.new (.cells Be 119)).new (.cells (Bj s) 30)).new (.cells Fr.zero.cells 247)).next=h.next+3:=rfl
 rw[show(h.new (.cells Be 119)).next=h.next+1 from rfl,show((h.new (.cells Be 119)).new (.cells (Bj s) 30)).next=h.next+2 from rfl];generalize ((h.new (.cells Be 119)).new (.cells (Bj s) 30)).new (.cells Fr.zero.cells 247)=h1 at J g2 Q d X⊢;have m:=J.hb hb;have zl:=Fr.Ba Fr.Gp;have o:=Brv H hu;have fin:∀(f:Fr) (e:Int) (y:Ab) (kk:Ab->R),(∀h',kk h'=Ij TT [.c (.ptr (h.next+2) 0) 247,.v (I e)] h')->HB y->Ext h y->y.get (h.next+2)=some (.cells Fr.zero.cells 247)->f.Wf->(f,e)=atF s An off ->
  Ok (stE 49 (.ptr (h.next+2) 0) (.agg f.cells) y kk) fun v h'=>v=.tuple [.agg (atF s An off).1.cells,I (atF s An off).2]/\(atF s An off).1.Wf/\Ext h h':=by
  intro f e y kk L M Y S wf he;have fl:=Fr.Ba wf;refine Ok.st f.cells S rfl (by show Fl f.cells=49;rw[Bf,fl]) (Bl (by rw[zl];exact fl.symm)) ?_;have Z:(y.put (h.next+2) (.cells f.cells 247)).get (h.next+2)=some (.cells f.cells 247):=Af _ _ _;rw[L,Ea Z A5l.1 A5l.2 fl,<-he];exact .ret ⟨rfl,wf,Y.Ao (.inr (by omega)) (M _ _ S) _⟩
 have u64:(Bj s).length=64:=by rw[Bg,H]
 rw[Cz g2 rfl,Aj P7];simp only[Gu];rw[Cz Q rfl,Aj u64];simp only[Gu];refine(Az1 (K:=K) H hu m W).Am ?_;rintro _ h2 ⟨rfl,E⟩;have A:=E.hb m;have d:=E.at m d;have O:=J.trans E;simp only[Aa];have F:Ext h2 (h2.new (.cells Fr.zero.cells 247)):=As.new _ _;have j:(h2.new (.cells Fr.zero.cells 247)).get h2.next=some (.cells Fr.zero.cells 247):=Ad _ _
 have d:=F.at A d;have u:=F.hb A;have B:=O.trans F;have n2:h.next+3<=h2.next:=by have:=E.next;omega
 generalize h2.new (.cells Fr.zero.cells 247)=G at F j d u B⊢;generalize h2.next=C at j n2⊢
 have dl:=Fr.Ba o;refine Ok.st (Aan s).1.cells j rfl (by show Fl (Aan s).1.cells=49;rw[Bf,dl]) (Bl (by rw[zl];exact dl.symm)) ?_;have T:=u _ _ j;have j:(G.put C (.cells (Aan s).1.cells 247)).get C=some (.cells (Aan s).1.cells 247):=Af _ _ _;have d:(G.put C (.cells (Aan s).1.cells 247)).get (h.next+2)=some (.cells Fr.zero.cells 247):=by rw[Ae _];exact d
 have D:Ext h (G.put C (.cells (Aan s).1.cells 247)):=B.Ao (.inr (by omega)) T _;have g:=u.put T (.cells (Aan s).1.cells 247);have e0:EV.cells (EV.agg (Aan s).1.cells)=(Aan s).1.cells:=rfl;generalize G.put C (.cells (Aan s).1.cells 247)=h4 at j d D g⊢;unfold atF at fin⊢;generalize (Aan s).2=e at fin⊢;generalize (Aan s).1=f at fin o dl j⊢;simp only[I,Ac];by_cases he:e=0
 ·subst he
  simp only[aC,aA,Aa,Azf,C0 j rfl,aY]at fin⊢;have l1:f.cells[1]? = some (I f.An):=rfl;have l2:f.cells[2]? = some (I f.off):=rfl;rw[l1];simp only[Gu,I,Ac];by_cases U:f.An=An
  ·simp only[U,aC,aA,Aa,C0 j rfl,false_or]at fin⊢
   rw[l2];simp only[Gu,I,Ac];by_cases V:f.off=off
   ·simp only[V,aC,aA,Aa,Aia,aY,Ayo]at fin⊢
    rw[Cz j rfl,Aj dl];exact fin f 0 h4 _ (fun _=>rfl) g D d o rfl
   ·simp only[V,aE,aB,Aa,Aia,bI]at fin⊢
    rw[Aw (l:=Fr.zero.cells) rfl];exact fin Fr.zero 12 h4 _ (fun _=>rfl) g D d Fr.Gp rfl
  ·simp only[U,aE,aB,Aa,true_or,bI,Aia]at fin⊢
   rw[Aw (l:=Fr.zero.cells) rfl];exact fin Fr.zero 12 h4 _ (fun _=>rfl) g D d Fr.Gp rfl
 ·simp only[he,aE,aB,Aa,bI]at fin⊢
  rw[Aw (l:=Fr.zero.cells) rfl];exact fin Fr.zero e h4 _ (fun _=>rfl) g D d Fr.Gp rfl
structure En where
 kind:Int
 first:Int
 count:Int
 block:Int
 many:Int
 Bv:Int
 bytes:List Nat
def En.cells(e:En):List EV:=[I e.kind,I e.first,I e.count,I e.block,I e.many,I e.Bv]++Bj e.bytes
structure En.Wf(e:En):Prop where
 len:e.bytes.length=32
 u8:∀b∈e.bytes,b<256
theorem En.Ba {e:En}(w:e.Wf):e.cells.length=38:=by
 unfold En.cells;rw[aG,Bg,w.len];rfl
theorem Bnq(a b:Nat):Agc (Nk .u8 a) (Nk .u8 b)=some (decide (a=b)):=by
 show Ax (Nat.beq (Ps .u8) (Ps .u8)) (some (eqB (Int.ofNat a) (Int.ofNat b))) none=_;rw[cI,Ak,Ajv];exact congrArg some (eS.2 ⟨Int.ofNat.inj,congrArg _⟩)
theorem Ax9:∀(a b:List Nat),a.length=b.length->Ez (Bj a) (Bj b)=some (decide (a=b))
 | [],[],_=>rfl
 | x::a,y::b,h=>by
  have g:=Ax9 a b (by simpa using h);show(match Agc (Nk .u8 x) (Nk .u8 y)with|some true=>Ez (Bj a) (Bj b)|some false=>(match Ez (Bj a) (Bj b)with|some _=>some false|none=>none)|none=>none)=_;rw[Bnq,g];by_cases d:x=y
  ·rw[aJ d]
   subst d;simp
  ·rw[aI d]
   simp[d]
theorem Ax4:∀(a:List Nat),shaped (List.replicate a.length 0) (Bj a)=true
 | []=>rfl
 | x::a=>by
  show Ax (Nat.beq 0 0) (shaped (List.replicate a.length 0) (Bj a)) false=true;rw[Ax4 a];rfl
theorem Bhx(d:TT.eqs t=some (List.replicate n 0)){a b:List Nat}(g:a.length=n)(hb:b.length=n)(k:EV->R):J1 Akq (bin TT .eql t) (.agg (Bj a)) (.agg (Bj b)) k=k (.bool (decide (a=b))):=by
 have e:bin TT .eql t (.agg (Bj a)) (.agg (Bj b))=some (.bool (decide (a=b))):=by
  show(match Aty TT t (.agg (Bj a)) (.agg (Bj b))with|some b=>some (EV.bool b)|none=>none)=_;have:Aty TT t (.agg (Bj a)) (.agg (Bj b))=some (decide (a=b)):=by
   show(match TT.eqs t with|some sh=>Ax (shaped sh (Bj a)) (Ez (Bj a) (Bj b)) none|none=>none)=_;rw[d];simp only;rw[show List.replicate n 0=List.replicate a.length 0 by rw[g],Ax4,Ak,Ax9 a b (by omega)]
  rw[this]
 show oB k (bin TT .eql t (.agg (Bj a)) (.agg (Bj b)))=_;rw[e];rfl
theorem Bg6(d:TT.eqs t=some (List.replicate n 0)){a b:List Nat}(g:a.length=n)(hb:b.length=n)(k:EV->R):J1 Alb (bin TT .neq t) (.agg (Bj a)) (.agg (Bj b)) k=k (.bool (decide (¬a=b))):=by
 have e:bin TT .neq t (.agg (Bj a)) (.agg (Bj b))=some (.bool (decide (¬a=b))):=by
  show(match Aty TT t (.agg (Bj a)) (.agg (Bj b))with|some b=>some (EV.bool (Ax b false true))|none=>none)=_;have:Aty TT t (.agg (Bj a)) (.agg (Bj b))=some (decide (a=b)):=by
   show(match TT.eqs t with|some sh=>Ax (shaped sh (Bj a)) (Ez (Bj a) (Bj b)) none|none=>none)=_;rw[d];simp only;rw[show List.replicate n 0=List.replicate a.length 0 by rw[g],Ax4,Ak,Ax9 a b (by omega)]
  rw[this];by_cases h:a=b
  ·simp[h,Ax]
  ·simp[h,Ax]
 show oB k (bin TT .neq t (.agg (Bj a)) (.agg (Bj b)))=_;rw[e];rfl
theorem Buh:TT.eqs 85=some (List.replicate 32 0):=by kernel_rfl
theorem Bst:TT.eqs 245=some (List.replicate 44 0):=by kernel_rfl
theorem Q0(n a b:Int)(h:Ab):Qf K (.int .i64 n) (.int .i64 a) (.int .i64 b) h=some (.bool (wi n a b),h):=by
 simp only[Qf,Ac,Aa];by_cases d:a<=n
 ·simp only[d,aB,Aa,Ac,Adc,wi,bD]
 ·simp only[d,aA,Aa,Adc,wi,ak]
def D5:List Nat:=List.replicate 32 0
def A0h(e:En):Bool:=
 if e.kind=1 then wi e.count 1 4&&decide (e.many=0)else
 if e.kind=2 then(decide (e.count=1)&&wi e.many 1 (256-e.block))&&decide (e.bytes=D5)else
 if e.kind=3 then decide (e.count=1)&&decide (e.many=0)else false
theorem Ga:List.replicate 32 (EV.int .u8 0)=Bj D5:=by kernel_rfl
theorem Az6{e:En}(w:e.Wf)(j:wi e.block 0 255=true):Ok (Qm K (.agg e.cells) h) fun v h'=>v=.bool (A0h e)/\Ext h h':=by
 obtain⟨b0,b1⟩:=On.1 j;simp only[Qm,Aa];obtain⟨E,B,d,g,_⟩:=nW h (.cells e.cells 203);rw[B];have l0:e.cells[0]? = some (I e.kind):=rfl;have m:e.cells[2]? = some (I e.count):=rfl;have C:e.cells[3]? = some (I e.block):=rfl;have o:e.cells[4]? = some (I e.many):=rfl;have D:Mu e.cells 6 32=some (Bj e.bytes):=by
  rw[E7 (by rw[En.Ba w];decide)];show some (List.take 32 (Bj e.bytes))=_;rw[bR (by rw[Bg,w.len];decide)]
 simp only[C0 g rfl,Aa,l0,I,Ac];unfold A0h;by_cases u:e.kind=1
 ·simp only[u,aB,Aa,C0 g rfl,m,I,Q0,Ac,bI]
  cases wi e.count 1 4 with
  | false=>simp only[Aa,Rl,Ac];exact .ret ⟨rfl,d⟩
  | true=>
   simp only[Aa,C0 g rfl,o,I,Ac,Rl,bD];exact .ret ⟨rfl,d⟩
 ·simp only[u,aA,Aa,aY,Ac]
  by_cases y:e.kind=2
  ·simp only[y,aB,Aa,C0 g rfl,m,I,Ac,bI]
   by_cases c1:e.count=1
   ·simp only[c1,aB,Aa,C0 g rfl,o,C,I,Ac,bD]
    rw[Ci,Q0];simp only[Aa,Rf];cases wi e.many 1 (256-e.block)with
    | false=>simp only[Aa,Mh,Ac,ak];exact .ret ⟨rfl,d⟩
    | true=>
     simp only[Aa,Ac,Cz g rfl,D];rw[Aw (l:=Bj D5) (by rw[Ga];rfl),Bhx Buh w.len (by rfl)];simp only[Mh,Aa,bD];exact .ret ⟨rfl,d⟩
   ·simp only[c1,aA,Aa,Ac,Rf,Mh,ak]
    exact .ret ⟨rfl,d⟩
  ·simp only[y,aA,Aa,aY,Ac]
   by_cases A:e.kind=3
   ·simp only[A,aB,Aa,C0 g rfl,m,I,Ac,bI]
    by_cases c1:e.count=1
    ·simp only[c1,aB,Aa,C0 g rfl,o,I,Ac,Rm,bD]
     exact .ret ⟨rfl,d⟩
    ·simp only[c1,aA,Aa,Ac,Rm,ak]
     exact .ret ⟨rfl,d⟩
   ·simp only[A,aA,Aa,aY,Aad]
    exact .ret ⟨rfl,d⟩
def erB(e:En):Bool:=wi e.first 0 281474976710655&&(wi e.block 0 255&&(wi e.Bv 0 65535&&A0h e))
theorem A1y{e:En}(w:e.Wf):Ok (Se K (.agg e.cells) h) fun v h'=>v=.bool (erB e)/\Ext h h':=by
 simp only[Se,Aa];obtain⟨A,m,d,g,_⟩:=nW h (.cells e.cells 203);rw[m];have l1:e.cells[1]? = some (I e.first):=rfl;have o:e.cells[3]? = some (I e.block):=rfl;have u:e.cells[5]? = some (I e.Bv):=rfl;simp only[C0 g rfl,Aa,l1,I,Q0,Ac];unfold erB;cases wi e.first 0 281474976710655 with
 | false=>simp only[Aa,Ac,St,N4,Jq];exact .ret ⟨rfl,d⟩
 | true=>
 simp only[Aa,Ac,C0 g rfl,o,I,Q0,St,bD];cases j:wi e.block 0 255 with
 | false=>simp only[Aa,Ac,N4,Jq];exact .ret ⟨rfl,d⟩
 | true=>
 simp only[Aa,Ac,C0 g rfl,u,I,Q0,N4,bD];cases wi e.Bv 0 65535 with
 | false=>simp only[Aa,Ac,Jq];exact .ret ⟨rfl,d⟩
 | true=>
 simp only[Aa,Ac,bD];rw[Cz g rfl,Aj (En.Ba w)];simp only[Gu];refine(Az6 (K:=K) w j).Am ?_;rintro _ h2 ⟨rfl,y⟩;simp only[Jq,Aa];exact .ret ⟨rfl,d.trans y⟩
variable {e:En}
def Zg(e:En):List Nat:=Vc 6 e.first.toNat++Vc 1 e.count.toNat++Vc 1 e.block.toNat++Vc 2 e.many.toNat++Vc 2 e.Bv.toNat++e.bytes
def Wl:List Nat:=List.replicate 44 0
theorem Aug:List.replicate 44 (EV.int .u8 0)=Bj Wl:=by kernel_rfl
def D7(e:En):List Nat × Int:=if erB e=true then(Zg e,0)else(Wl,10)
theorem A5k(w:e.Wf):(Zg e).length=44:=by
 unfold Zg;simp only[aG,Hv,w.len]
theorem Blu(w:e.Wf):∀b∈Zg e,b<256:=fun b hb=>by
 unfold Zg at hb;simp only[bP]at hb;rcases hb with((((hb|hb)|hb)|hb)|hb)|hb
 ·exact Aa1 _ _ b hb
 ·exact Aa1 _ _ b hb
 ·exact Aa1 _ _ b hb
 ·exact Aa1 _ _ b hb
 ·exact Aa1 _ _ b hb
 ·exact w.u8 b hb
theorem Akx(w:e.Wf):(D7 e).1.length=44:=by
 unfold D7;split
 ·exact A5k w
 ·rfl
theorem Bbj(w:e.Wf):∀b∈(D7 e).1,b<256:=by
 unfold D7;split
 ·exact Blu w
 ·intro b hb;rw[bc hb];decide
theorem A41:TT.size 245=some 44/\TT.agg 245=some true:=⟨by kernel_rfl,by kernel_rfl⟩
theorem Bcg(g:erB e=true):(0<=e.first/\e.first<=281474976710655)/\(0<=e.block/\e.block<=255)/\(0<=e.Bv/\e.Bv<=65535)/\(1<=e.count/\e.count<=4)/\(0<=e.many/\e.many<=256)/\(1<=e.kind/\e.kind<=3):=by
 unfold erB at g;simp only[bL]at g;obtain⟨j,m,o,d⟩:=g;have a:=On.1 j;have b:=On.1 m;have c:=On.1 o;refine⟨a,b,c,?_⟩;unfold A0h at d;split at d
 ·simp only[bL,bM]at d
  have:=On.1 d.1;omega
 ·split at d
  ·simp only[bL,bM]at d
   have:=On.1 d.1.2;omega
  ·split at d
   ·simp only[bL,bM]at d
    omega
   ·cases d
theorem As7(w:e.Wf)(hb:HB h)(hK:10000<K):
 Ok (Pn K (.agg e.cells) h) fun v h'=>v=.tuple [.agg (Bj (D7 e).1),I (D7 e).2]/\Ext h h':=by
 have l1:e.cells[1]? = some (I e.first):=rfl;have l2:e.cells[2]? = some (I e.count):=rfl;have l3:e.cells[3]? = some (I e.block):=rfl;have l4:e.cells[4]? = some (I e.many):=rfl;have l5:e.cells[5]? = some (I e.Bv):=rfl;have X:=En.Ba w;simp only[Pn,Aa];rw[Aug];have x1:Ext h (((h.new (.cells e.cells 203)).new (.cells (Bj Wl) 245)).new (.cells (Bj Wl) 245)):=((As.new _ _).Da _).Da _;have m:(((h.new (.cells e.cells 203)).new (.cells (Bj Wl) 245)).new (.cells (Bj Wl) 245)).get h.next=some (.cells e.cells 203):=by
  rw[Az _ (by show h.next<h.next+1+1;omega),Az _ (aR _)];exact Ad _ _
 have g2:(((h.new (.cells e.cells 203)).new (.cells (Bj Wl) 245)).new (.cells (Bj Wl) 245)).get (h.next+1)=some (.cells (Bj Wl) 245):=by
  rw[Az _ (by show h.next+1<h.next+1+1;omega)];exact Ad _ _
 have d:(((h.new (.cells e.cells 203)).new (.cells (Bj Wl) 245)).new (.cells (Bj Wl) 245)).get (h.next+2)=some (.cells (Bj Wl) 245):=Ad _ _;have n1:(((h.new (.cells e.cells 203)).new (.cells (Bj Wl) 245)).new (.cells (Bj Wl) 245)).next=h.next+3:=rfl
 rw[show(h.new (.cells e.cells 203)).next=h.next+1 from rfl,show((h.new (.cells e.cells 203)).new (.cells (Bj Wl) 245)).next=h.next+2 from rfl];generalize ((h.new (.cells e.cells 203)).new (.cells (Bj Wl) 245)).new (.cells (Bj Wl) 245)=h1 at x1 m g2 d n1⊢;have G:=x1.hb hb;have zl:(Bj Wl).length=44:=by rw[Bg];rfl
 have fin:∀(l:List Nat) (er:Int) (Q:Ab) (kk:Ab->R),(∀h',kk h'=Ij TT [.c (.ptr (h.next+1) 0) 245,.v (I er)] h')->HB Q->Ext h Q->Q.get (h.next+1)=some (.cells (Bj Wl) 245)->l.length=44->(l,er)=D7 e ->
  Ok (stE 44 (.ptr (h.next+1) 0) (.agg (Bj l)) Q kk) fun v h'=>v=.tuple [.agg (Bj (D7 e).1),I (D7 e).2]/\Ext h h':=by
  intro l er Q kk aj A x5 g5 hl he;have fl:(Bj l).length=44:=by rw[Bg,hl]
  refine Ok.st (Bj l) g5 rfl (by show Fl (Bj l)=44;rw[Bf,fl]) (Bl (by rw[zl];exact fl.symm)) ?_;have g6:(Q.put (h.next+1) (.cells (Bj l) 245)).get (h.next+1)=some (.cells (Bj l) 245):=Af _ _ _;rw[aj,Ea g6 A41.1 A41.2 fl,<-he];exact .ret ⟨rfl,x5.Ao (.inr (by omega)) (A _ _ g5) _⟩
 rw[Cz m rfl,Aj X];simp only[Gu];refine(A1y (K:=K) w).Am ?_;rintro _ h2 ⟨rfl,U⟩;have C:=U.hb G;have Y:=x1.trans U;have m:=U.at G m;have g2:=U.at G g2;have d:=U.at G d;have n2:h.next+3<=h2.next:=by have:=U.next;omega
 unfold D7 at fin⊢;cases hr:erB e with
 | false=>
  rw[hr]at fin;simp only[Aa,aW,aY]at fin⊢;rw[Cz d rfl,Aj zl];simp only[Gu];exact fin Wl 10 h2 _ (fun _=>rfl) C Y g2 rfl rfl
 | true=>
 rw[hr]at fin;simp only[Aa,bI,Adk]at fin⊢;obtain⟨⟨a1,b1⟩,⟨a2,b2⟩,⟨a3,b3⟩,⟨a4,b4⟩,⟨a5,b5⟩,_⟩:=Bcg hr;have p0:A3h (h2.new (.cells [.Al,.bool false] 350)) h2.next 350 [] false:=⟨.Al,0,Ad _ _,.nil _ _ _ _,fun y=>absurd y (bS _)⟩
 have V:Ext h2 (h2.new (.cells [.Al,.bool false] 350)):=As.new _ _;have m:=V.at C m;have g2:=V.at C g2;have d:=V.at C d;have D:=V.hb C;have Z:=Y.trans V;generalize h2.new (.cells [.Al,.bool false] 350)=h3 at p0 V m g2 d D Z⊢;generalize hP:h2.next=P at p0 n2⊢
 have up:∀{W hc:Ab},Ext h W->As (fun i=>P<=i) W hc->Ext h hc:=fun x c=>x.then c fun j hj hl=>by
  have hj:P<=j:=hj;omega
 have u:∀{W hc:Ab} {i:Nat} {o:Ca},As (fun i=>P<=i) W hc->HB W->W.get i=some o->i<P->hc.get i=some o:=fun c hb g hi=>c.at hb g (by omega)
 rw[C0 m rfl,l1];simp only[Gu];refine(Lx (K:=K) (w:=6) (by omega) p0 D (by simp) (by decide) (by decide) (v:=e.first) (by omega)).Am ?_;rintro _ Q ⟨p,c,A⟩;rw[Yn (b:=281474976710655) a1 b1 (by decide),aQ rfl]at p;have x5:=up Z c;have m:=u c D m (by omega);have g2:=u c D g2 (by omega);have d:=u c D d (by omega);rw[C0 m rfl,l2];simp only[Gu];refine(Lx (K:=K) (w:=1) (by omega) p A (by simp[Hv]) (by decide) (by decide) (v:=e.count) (by omega)).Am ?_;rintro _ h6 ⟨p,c,H⟩;rw[Yn (b:=4) (by omega) b4 (by decide),aQ rfl]at p;have x6:=up x5 c;have m:=u c A m (by omega);have g2:=u c A g2 (by omega);have d:=u c A d (by omega);rw[C0 m rfl,l3];simp only[Gu];refine(Lx (K:=K) (w:=1) (by omega) p H (by simp[Hv]) (by decide) (by decide) (v:=e.block) (by omega)).Am ?_;rintro _ h7 ⟨p,c,J⟩;rw[Yn (b:=255) a2 b2 (by decide),aQ rfl]at p;have x7:=up x6 c;have m:=u c H m (by omega);have g2:=u c H g2 (by omega);have d:=u c H d (by omega);rw[C0 m rfl,l4];simp only[Gu];refine(Lx (K:=K) (w:=2) (by omega) p J (by simp[Hv]) (by decide) (by decide) (v:=e.many) (by omega)).Am ?_;rintro _ h8 ⟨p,c,L⟩;rw[Yn (b:=256) a5 b5 (by decide),aQ rfl]at p;have x8:=up x7 c;have m:=u c J m (by omega);have g2:=u c J g2 (by omega);have d:=u c J d (by omega);rw[C0 m rfl,l5];simp only[Gu];refine(Lx (K:=K) (w:=2) (by omega) p L (by simp[Hv]) (by decide) (by decide) (v:=e.Bv) (by omega)).Am ?_;rintro _ h9 ⟨p,c,S⟩;rw[Yn (b:=65535) a3 b3 (by decide),aQ rfl]at p;have x9:=up x8 c;have m:=u c L m (by omega);have g2:=u c L g2 (by omega);have d:=u c L d (by omega)
 try simp only[Aa]
 rw[show ∀k:EV->R,N1 32 1 (.ptr h.next 6) none none none k=k (.slice h.next 6 32 32 false)from fun k=>rfl];have aq:Pk h9 1 32 (.slice h.next 6 32 32 false)=some (Bj e.bytes):=by
  show Yq h9 h.next 6 32=_
  unfold Yq Awy;rw[m];show Mu e.cells 6 32=_;rw[E7 (by rw[X];decide)];show some (List.take 32 (Bj e.bytes))=_;rw[bR (by rw[Bg,w.len];decide)]
 refine(Avo (K:=K) (n:=32) p S (by simp[Hv]) rfl (by decide) (by decide) aq w.len).Am ?_;rintro _ b6 ⟨p,c,E⟩;have au:=up x9 c;have g2:=u c S g2 (by omega);have d:=u c S d (by omega);have ep:([]++Vc 6 e.first.toNat++Vc 1 e.count.toNat++Vc 1 e.block.toNat++Vc 2 e.many.toNat++Vc 2 e.Bv.toNat++e.bytes)=Zg e:=by
  unfold Zg;rw[dN]
 have ab:∀b:Bool,(b||!true)=b:=by decide
 rw[ep]at p;simp only[ab]at p;have B:=A5k w;refine(A27 (K:=K) p E (by rw[B];decide)).Am ?_;rintro _ T ⟨y,q',rfl,ry,F,M,lq⟩;have g2:=F.at E g2;have d:=F.at E d;have ad:=au.trans F;simp only[Aa];rw[show ∀k:EV->R,N1 44 1 (.ptr (h.next+2) 0) none none none k=k (.slice (h.next+2) 0 44 44 false)from fun k=>rfl];have ae:=ry.bs (by rw[B];decide);have hlen:=ae.len;have O:=ae.cells;rw[B]at hlen O;have af:=A8m (h:=T) (i:=h.next+2) (n:=44) (r:=44) (op:=false) (t:=245) (hd:=[]) (Cv:=Bj Wl) d hlen (by decide) O (by rw[Bg,B]) zl;rw[show([]:List EV).length=0 from rfl,dN]at af;rw[af,Aq];have ag:=M _ _ d;have d:(T.put (h.next+2) (.cells (Bj (Zg e)) 245)).get (h.next+2)=some (.cells (Bj (Zg e)) 245):=Af _ _ _;have g2:(T.put (h.next+2) (.cells (Bj (Zg e)) 245)).get (h.next+1)=some (.cells (Bj Wl) 245):=by rw[Ae _];exact g2
 rw[Cz d rfl,Aj (by rw[Bg,B])];simp only[Gu];exact fin (Zg e) 0 _ _ (fun _=>rfl) (M.put ag _) (ad.Ao (.inr (by omega)) ag _) g2 B rfl
theorem Bdz(a b c d e:Int){l:List EV}(g:l.length=44):Abp (Df [(0,1),(1,1),(2,1),(3,1),(4,1),(5,44)]) [(0,I a),(1,I b),(2,I c),(3,I d),(4,I e),(5,.agg l)] Fr.zero.cells=some ([I a,I b,I c,I d,I e]++l):=by
 have hs:=Ak4 [I a,I b,I c,I d,I e] (Bj (List.replicate 44 0)) l (by rw[Bg,bT,g]);rw[<-Vq]at hs;show Ax (Nat.beq (Fl l) 44) (oB (fun z=>some z) (Mq ([I a,I b,I c,I d,I e]++Bj (List.replicate 44 0)) 5 l)) none=_;rw[Bf,g,cI,Ak];rw[show(5:Nat) = [I a,I b,I c,I d,I e].length from rfl,hs];rfl
def Jl(e:En)(An off Au seq:Int):Fr × Int:=
 if erB e=true/\frB ⟨e.kind,An,off,Au,seq,(D7 e).1⟩=true/\e.first<=seq/\seq-e.count<e.first then(⟨e.kind,An,off,Au,seq,(D7 e).1⟩,0)else(Fr.zero,10)
theorem A47(w:e.Wf)(An off Au seq:Int):(Jl e An off Au seq).1.Wf:=by
 unfold Jl;split
 ·exact⟨Akx w,Bbj w⟩
 ·exact Fr.Gp
theorem Afo(w:e.Wf)(hb:HB h)(hK:10000<K)(An off Au seq:Int):
 Ok (Kb K (.agg e.cells) (I An) (I off) (I Au) (I seq) h) fun v h'=>v=.tuple [.agg (Jl e An off Au seq).1.cells,I (Jl e An off Au seq).2]/\Ext h h':=by
 have l0:e.cells[0]? = some (I e.kind):=rfl;have l1:e.cells[1]? = some (I e.first):=rfl;have l2:e.cells[2]? = some (I e.count):=rfl;have aa:=En.Ba w;have zl:=Fr.Ba Fr.Gp;have E:(⟨e.kind,An,off,Au,seq,(D7 e).1⟩:Fr).Wf:=⟨Akx w,Bbj w⟩;have fl:=Fr.Ba E;simp only[Kb,Aa];rw[Fr.H2];have x1:Ext h ((h.new (.cells e.cells 203)).new (.cells Fr.zero.cells 247)):=(As.new _ _).Da _;have d:((h.new (.cells e.cells 203)).new (.cells Fr.zero.cells 247)).get h.next=some (.cells e.cells 203):=by
  rw[Az _ (aR _)];exact Ad _ _
 have g10:((h.new (.cells e.cells 203)).new (.cells Fr.zero.cells 247)).get (h.next+1)=some (.cells Fr.zero.cells 247):=Ad _ _;have n1:((h.new (.cells e.cells 203)).new (.cells Fr.zero.cells 247)).next=h.next+2:=rfl
 rw[show(h.new (.cells e.cells 203)).next=h.next+1 from rfl];generalize (h.new (.cells e.cells 203)).new (.cells Fr.zero.cells 247)=h1 at x1 d g10 n1⊢;have B:=x1.hb hb;have fin:∀(f:Fr) (er:Int) (o:Ab) (kk:Ab->R),(∀h',kk h'=Ij TT [.c (.ptr (h.next+1) 0) 247,.v (I er)] h')->HB o->Ext h o->o.get (h.next+1)=some (.cells Fr.zero.cells 247)->f.Wf->(f,er)=Jl e An off Au seq ->
  Ok (stE 49 (.ptr (h.next+1) 0) (.agg f.cells) o kk) fun v h'=>v=.tuple [.agg (Jl e An off Au seq).1.cells,I (Jl e An off Au seq).2]/\Ext h h':=by
  intro f er o kk ae u F d wf he;have fl:=Fr.Ba wf;refine Ok.st f.cells d rfl (by show Fl f.cells=49;rw[Bf,fl]) (Bl (by rw[zl];exact fl.symm)) ?_;have g6:(o.put (h.next+1) (.cells f.cells 247)).get (h.next+1)=some (.cells f.cells 247):=Af _ _ _;rw[ae,Ea g6 A5l.1 A5l.2 fl,<-he];exact .ret ⟨rfl,F.Ao (.inr (by omega)) (u _ _ d) _⟩
 rw[Cz d rfl,Aj aa];simp only[Gu];refine(As7 (K:=K) w B hK).Am ?_;rintro _ h2 ⟨rfl,M⟩;have G:=M.hb B;have af:=x1.trans M;have d:=M.at B d;have g10:=M.at B g10;have n2:h.next+2<=h2.next:=by have:=M.next;omega
 simp only[Aa];rw[Aug];have O:Ext h2 (h2.new (.cells (Bj Wl) 245)):=As.new _ _;have j:(h2.new (.cells (Bj Wl) 245)).get h2.next=some (.cells (Bj Wl) 245):=Ad _ _
 have d:=O.at G d;have g10:=O.at G g10;have H:=O.hb G;have S:=af.trans O;have n3:(h2.new (.cells (Bj Wl) 245)).next=h2.next+1:=rfl
 generalize h2.new (.cells (Bj Wl) 245)=L at O j d g10 H S n3⊢;generalize h2.next=P at j n2 n3⊢
 have bl:(Bj (D7 e).1).length=44:=by rw[Bg,Akx w]
 refine Ok.st (Bj (D7 e).1) j rfl (by show Fl (Bj (D7 e).1)=44;rw[Bf,bl]) (Bl (by rw[Bg];exact bl.symm)) ?_;have T:=H _ _ j;have j:(L.put P (.cells (Bj (D7 e).1) 245)).get P=some (.cells (Bj (D7 e).1) 245):=Af _ _ _;have d:(L.put P (.cells (Bj (D7 e).1) 245)).get h.next=some (.cells e.cells 203):=by rw[Ae _];exact d
 have g10:(L.put P (.cells (Bj (D7 e).1) 245)).get (h.next+1)=some (.cells Fr.zero.cells 247):=by rw[Ae _];exact g10
 have x4:Ext h (L.put P (.cells (Bj (D7 e).1) 245)):=S.Ao (.inr (by omega)) T _;have C:=H.put T (.cells (Bj (D7 e).1) 245);have n4:(L.put P (.cells (Bj (D7 e).1) 245)).next=P+1:=n3
 generalize L.put P (.cells (Bj (D7 e).1) 245)=h4 at j d g10 x4 C n4⊢
 try simp only[Aa]
 rw[C0 d rfl,l0];simp only[Gu];rw[Cz j rfl,Aj bl];simp only[Gu]
 try rw[Fr.H2]
 rw[Aw (Bdz e.kind An off Au seq bl)]
 try simp only[Aa]
 have F:Ext h4 (h4.new (.cells Fr.zero.cells 247)):=As.new _ _;have g:(h4.new (.cells Fr.zero.cells 247)).get h4.next=some (.cells Fr.zero.cells 247):=Ad _ _
 have d:=F.at C d;have g10:=F.at C g10;have u:=F.hb C;have U:=x4.trans F;generalize h4.new (.cells Fr.zero.cells 247)=o at F g d g10 u U⊢;generalize h4.next=Q at g n4⊢
 refine Ok.st (⟨e.kind,An,off,Au,seq,(D7 e).1⟩:Fr).cells g rfl (by show Fl (⟨e.kind,An,off,Au,seq,(D7 e).1⟩:Fr).cells=49;rw[Bf,fl]) (Bl (by rw[zl];exact fl.symm)) ?_;have V:=u _ _ g;have g:(o.put Q (.cells (⟨e.kind,An,off,Au,seq,(D7 e).1⟩:Fr).cells 247)).get Q=some (.cells (⟨e.kind,An,off,Au,seq,(D7 e).1⟩:Fr).cells 247):=Af _ _ _;have d:(o.put Q (.cells (⟨e.kind,An,off,Au,seq,(D7 e).1⟩:Fr).cells 247)).get h.next=some (.cells e.cells 203):=by rw[Ae _];exact d
 have g10:(o.put Q (.cells (⟨e.kind,An,off,Au,seq,(D7 e).1⟩:Fr).cells 247)).get (h.next+1)=some (.cells Fr.zero.cells 247):=by rw[Ae _];exact g10
 have x6:Ext h (o.put Q (.cells (⟨e.kind,An,off,Au,seq,(D7 e).1⟩:Fr).cells 247)):=U.Ao (.inr (by omega)) V _;have m:=u.put V (.cells (⟨e.kind,An,off,Au,seq,(D7 e).1⟩:Fr).cells 247);generalize o.put Q (.cells (⟨e.kind,An,off,Au,seq,(D7 e).1⟩:Fr).cells 247)=h6 at g d g10 x6 m⊢;have ah:(D7 e).2=if erB e=true then 0 else 10:=by unfold D7;split<;>rfl
 rw[ah];unfold Jl at fin⊢;generalize ai:(⟨e.kind,An,off,Au,seq,(D7 e).1⟩:Fr)=f at fin E fl g⊢;have no:∀D:Ab,Ext h6 D->¬(erB e=true/\frB f=true/\e.first<=seq/\seq-e.count<e.first)->Ok (Bm (Df [(0,1),(1,1),(2,1),(3,1),(4,1),(5,44)]) Fr.zero.cells [] fun aj=>stE 49 (.ptr (h.next+1) 0) aj D fun z=>Ij TT [.c (.ptr (h.next+1) 0) 247,.v (.int .i64 10)] z) _:=fun D A al=>by
  rw[Aw (l:=Fr.zero.cells) rfl];exact fin Fr.zero 10 D _ (fun _=>rfl) (A.hb m) (x6.trans A) (A.at m g10) Fr.Gp (by rw[aM al])
 simp only[I,Ac];by_cases W:erB e=true
 ·rw[aQ W]
  simp only[aC,aA,Aa];rw[Cz g rfl,Aj fl];simp only[Gu];refine(Agm (K:=K) f).Am ?_;rintro _ D ⟨rfl,A⟩;have d:=A.at m d;cases Z:frB f with
  | false=>
   simp only[Aa,Ac,Ns,Jw,Hb];have r:=no D A (by rw[Z];simp);rw[Z]at r;exact r
  | true=>
   have J:=Z;rw[<-ai]at J;simp only[frB,bL]at J;have a1:=On.1 J.2.2.2.2;have a2:=(Bcg W).2.2.2.1;have rr:=no D A;have rf:=fin f 0 D (fun z=>Ij TT [RV.c (EV.ptr (h.next+1) 0) 247,RV.v (EV.int IntKind.i64 0)] z) (fun _=>rfl) (A.hb m) (x6.trans A) (A.at m g10) E;rw[Z]at rr rf;simp only[eq_self]at rr rf;simp only[Aa,Ac,Ns];rw[C0 d rfl,l1];simp only[Gu,I,Ac];by_cases X:seq<e.first
   ·rw[show decide (seq<e.first)=true from aJ X]
    simp only[Aa,Ac,Jw,Hb];exact rr fun y=>by omega
   ·rw[show decide (seq<e.first)=false from aI X]
    simp only[Aa,Ac,Jw];rw[C0 d rfl,l1];simp only[Gu];rw[C0 d rfl,l2];simp only[Gu,I,Ac];rw[Ci];by_cases Y:e.first<=seq-e.count
    ·rw[show decide (e.first<=seq-e.count)=true from aJ Y]
     simp only[Aa,Ac,Hb];exact rr fun y=>by omega
    ·rw[show decide (e.first<=seq-e.count)=false from aI Y]
     simp only[Aa,Ac,Hb,Abh];rw[Cz (A.at m g) rfl,Aj fl];exact rf (by rw[aQ ⟨W,trivial,by omega,by omega⟩])
 ·rw[aM W]
  simp only[show ¬((10:Int)=0) by decide,aE,aB,Aa,Ac,Ns,Jw,Hb];exact no h6 (As.refl _) fun y=>W y.1
def En.zero:En:=⟨0,0,0,0,0,0,D5⟩
theorem En.H2:List.replicate 6 (EV.int .i64 0)++List.replicate 32 (EV.int .u8 0)=En.zero.cells:=by kernel_rfl
theorem En.Gp:En.zero.Wf:=⟨rfl,fun b hb=>by rw[bc hb];decide⟩
theorem Bf1:TT.size 203=some 38/\TT.agg 203=some true:=⟨by kernel_rfl,by kernel_rfl⟩
def Abe(kind:Int)(p:List Nat):En:=⟨kind,Q5 (p.take 6),Q5 ((p.drop 6).take 1),Q5 (((p.drop 6).drop 1).take 1),Q5 ((((p.drop 6).drop 1).drop 1).take 2),Q5 (((((p.drop 6).drop 1).drop 1).drop 2).take 2),((((((p.drop 6).drop 1).drop 1).drop 2).drop 2).take 32)⟩
theorem A1w(d:p.length=44)(hu:∀b∈p,b<256):(Abe kind p).Wf:=by
 refine⟨?_,fun b hb=>hu b ?_⟩
 ·simp only[Abe,bH,aU,d];decide
 ·simp only[Abe]at hb
  exact aF (aF (aF (aF (aF (bO hb)))))
def ofF(kind:Int)(p:List Nat):En × Int:=
 if(D7 (Abe kind p)).2=0/\(D7 (Abe kind p)).1=p then(Abe kind p,0)else(En.zero,10)
theorem Bku(d:p.length=44)(hu:∀b∈p,b<256):(ofF kind p).1.Wf:=by
 unfold ofF;split
 ·exact A1w d hu
 ·exact En.Gp
theorem Bdn(k:Int)(a b c d e:Nat):Abp (Df [(0,1),(1,1),(2,1),(3,1),(4,1),(5,1),(6,32)]) [(0,I k),(1,Nk .i64 a),(2,Nk .i64 b),(3,Nk .i64 c),(4,Nk .i64 d),(5,Nk .i64 e)] En.zero.cells=some ([I k,Nk .i64 a,Nk .i64 b,Nk .i64 c,Nk .i64 d,Nk .i64 e]++Bj D5):=rfl
theorem Bbs(hp:p.length=44)(hu:∀b∈p,b<256)(hb:HB h)(hK:10000<K)(kind:Int):
 Ok (Awz K (I kind) (.agg (Bj p)) h) fun v h'=>v=.tuple [.agg (ofF kind p).1.cells,I (ofF kind p).2]/\Ext h h':=by
 have zl:=En.Ba En.Gp;have ul:(Bj p).length=44:=by rw[Bg,hp]
 simp only[Awz,Aa];rw[En.H2];have x1:Ext h ((h.new (.cells (Bj p) 245)).new (.cells En.zero.cells 203)):=(As.new _ _).Da _;have m:((h.new (.cells (Bj p) 245)).new (.cells En.zero.cells 203)).get h.next=some (.cells (Bj p) 245):=by
  rw[Az _ (aR _)];exact Ad _ _
 have u:((h.new (.cells (Bj p) 245)).new (.cells En.zero.cells 203)).get (h.next+1)=some (.cells En.zero.cells 203):=Ad _ _;have n1:((h.new (.cells (Bj p) 245)).new (.cells En.zero.cells 203)).next=h.next+2:=rfl
 rw[show(h.new (.cells (Bj p) 245)).next=h.next+1 from rfl];generalize (h.new (.cells (Bj p) 245)).new (.cells En.zero.cells 203)=h1 at x1 m u n1⊢;have a8:=x1.hb hb;have wfE:=A1w (kind:=kind) hp hu;have fin:∀(e:En) (er:Int) (h5:Ab) (kk:Ab->R),(∀h',kk h'=Ij TT [.c (.ptr (h.next+1) 0) 203,.v (I er)] h')->HB h5->Ext h h5->h5.get (h.next+1)=some (.cells En.zero.cells 203)->e.Wf->(e,er)=ofF kind p ->
  Ok (stE 38 (.ptr (h.next+1) 0) (.agg e.cells) h5 kk) fun v h'=>v=.tuple [.agg (ofF kind p).1.cells,I (ofF kind p).2]/\Ext h h':=by
  intro e er h5 kk da Y x5 g5 wf he;have fl:=En.Ba wf;refine Ok.st e.cells g5 rfl (by show Fl e.cells=38;rw[Bf,fl]) (Bl (by rw[zl];exact fl.symm)) ?_;have g6:(h5.put (h.next+1) (.cells e.cells 203)).get (h.next+1)=some (.cells e.cells 203):=Af _ _ _;rw[da,Ea g6 Bf1.1 Bf1.2 fl,<-he];exact .ret ⟨rfl,x5.Ao (.inr (by omega)) (Y _ _ g5) _⟩
 rw[show ∀k:EV->R,N1 44 1 (.ptr h.next 0) none none none k=k (.slice h.next 0 44 44 false)from fun k=>rfl];have bs:Bs h1 (.slice h.next 0 44 44 false) h.next 0 p:=by
  refine⟨44,false,_,Bj p,by rw[hp],by omega,m,rfl,by rw[ul];omega,?_⟩;rw[dE,hp,<-ul,cL]
 refine(Afb (K:=K) bs a8 (by omega) (by omega)).Am ?_;rintro _ h5 ⟨Rr,q,rfl,d0,x5,Y,ee⟩;have m:=x5.at a8 m;have u:=x5.at a8 u;have db:=x1.trans x5;have ef:Rr<h5.next:=by obtain⟨_,g,_⟩:=d0.Mw;exact Y _ _ g
 have ei:h.next+1<Rr:=by have:=d0.ne;omega
 have up:∀{Z hc:Ab},Ext h Z->As (fun i=>i=Rr) Z hc->Ext h hc:=fun x c=>x.then c fun j hj dc=>by
  have hj:j=Rr:=hj;omega
 have d:∀{Z hc:Ab} {i:Nat} {o:Ca},As (fun i=>i=Rr) Z hc->HB Z->Z.get i=some o->i≠Rr->hc.get i=some o:=fun c hb g hi=>c.at hb g hi
 refine(Lb (K:=K) (w:=6) d0 Y (by omega) (by decide) (by decide) (by omega) hu).Am ?_;rintro _ h6 ⟨rfl,d1,c6,bb⟩;have m:=d c6 Y m (by omega);have u:=d c6 Y u (by omega);have x6:=up db c6;refine(Lb (K:=K) (w:=1) d1 bb (by omega) (by decide) (by decide) (by simp only[aU];omega) (fun b hb=>hu b (aF hb))).Am ?_;rintro _ h7 ⟨rfl,d2,c7,bf⟩;have m:=d c7 bb m (by omega);have u:=d c7 bb u (by omega);have x7:=up x6 c7;refine(Lb (K:=K) (w:=1) d2 bf (by omega) (by decide) (by decide) (by simp only[aU];omega) (fun b hb=>hu b (aF (aF hb)))).Am ?_;rintro _ h8 ⟨rfl,d3,c8,bj⟩;have m:=d c8 bf m (by omega);have u:=d c8 bf u (by omega);have x8:=up x7 c8;refine(Lb (K:=K) (w:=2) d3 bj (by omega) (by decide) (by decide) (by simp only[aU];omega) (fun b hb=>hu b (aF (aF (aF hb))))).Am ?_;rintro _ h9 ⟨rfl,d4,c9,bn⟩;have m:=d c9 bj m (by omega);have u:=d c9 bj u (by omega);have x9:=up x8 c9;refine(Lb (K:=K) (w:=2) d4 bn (by omega) (by decide) (by decide) (by simp only[aU];omega) (fun b hb=>hu b (aF (aF (aF (aF hb)))))).Am ?_;rintro _ O ⟨rfl,d5,aw,W⟩;have m:=d aw bn m (by omega);have u:=d aw bn u (by omega);have dg:=up x9 aw
 try rw[En.H2]
 rw[Aw (Bdn kind _ _ _ _ _)]
 try simp only[Aa]
 have aa:Ext O (O.new (.cells En.zero.cells 203)):=As.new _ _;have H:(O.new (.cells En.zero.cells 203)).get O.next=some (.cells En.zero.cells 203):=Ad _ _
 have bz:(O.new (.cells En.zero.cells 203)).next=O.next+1:=rfl
 have m:=aa.at W m;have u:=aa.at W u;have J:=aa.hb W;have d5:=d5.ext W aa;have b5:=dg.trans aa;have hF:Rr<O.next:=by have:=c6.next;have:=c7.next;have:=c8.next;have:=c9.next;have:=aw.next;omega
 generalize O.new (.cells En.zero.cells 203)=af at aa H bz m u J d5 b5⊢;generalize O.next=Q at H bz hF⊢
 have G:(((((p.drop 6).drop 1).drop 1).drop 2).drop 2).length=32:=by simp only[aU];omega
 unfold ofF Abe at fin⊢;unfold Abe at wfE;generalize (((((p.drop 6).drop 1).drop 1).drop 2).drop 2)=body at d5 G fin wfE⊢;generalize Q5 (p.take 6)=A at fin wfE⊢;generalize Q5 ((p.drop 6).take 1)=B at fin wfE⊢;generalize Q5 (((p.drop 6).drop 1).take 1)=C at fin wfE⊢;generalize Q5 ((((p.drop 6).drop 1).drop 1).take 2)=D at fin wfE⊢;generalize Q5 (((((p.drop 6).drop 1).drop 1).drop 2).take 2)=F at fin wfE⊢;have b6:body.take 32=body:=bR (by omega);rw[b6]at fin wfE⊢;have a2:([I kind,Nk .i64 A,Nk .i64 B,Nk .i64 C,Nk .i64 D,Nk .i64 F]++Bj D5).length=38:=by rw[aG,Bg];rfl
 refine Ok.st ([I kind,Nk .i64 A,Nk .i64 B,Nk .i64 C,Nk .i64 D,Nk .i64 F]++Bj D5) H rfl (by show Fl ([I kind,Nk .i64 A,Nk .i64 B,Nk .i64 C,Nk .i64 D,Nk .i64 F]++Bj D5)=38;rw[Bf,a2]) (Bl (by rw[zl];exact a2.symm)) ?_;have lF:=J _ _ H;have ag:As (fun i=>i=Q) af (af.put Q (.cells ([I kind,Nk .i64 A,Nk .i64 B,Nk .i64 C,Nk .i64 D,Nk .i64 F]++Bj D5) 203)):=(As.refl (S:=fun i=>i=Q) af).Ao (.inl rfl) lF _;have H:(af.put Q (.cells ([I kind,Nk .i64 A,Nk .i64 B,Nk .i64 C,Nk .i64 D,Nk .i64 F]++Bj D5) 203)).get Q=some (.cells ([I kind,Nk .i64 A,Nk .i64 B,Nk .i64 C,Nk .i64 D,Nk .i64 F]++Bj D5) 203):=Af _ _ _;have L:=J.put lF (.cells ([I kind,Nk .i64 A,Nk .i64 B,Nk .i64 C,Nk .i64 D,Nk .i64 F]++Bj D5) 203);generalize af.put Q (.cells ([I kind,Nk .i64 A,Nk .i64 B,Nk .i64 C,Nk .i64 D,Nk .i64 F]++Bj D5) 203)=di at ag H L⊢;have b7:∀{Z hc:Ab},Ext h Z->As (fun i=>i=Q) Z hc->Ext h hc:=fun x c=>x.then c fun j hj dc=>by
  have hj:j=Q:=hj;omega
 have T:∀{Z hc:Ab} {i:Nat} {o:Ca},As (fun i=>i=Q) Z hc->HB Z->Z.get i=some o->i≠Q->hc.get i=some o:=fun c hb g hi=>c.at hb g hi
 have m:=T ag J m (by omega);have u:=T ag J u (by omega);have d5:=d5.chg J ag (by have:=d5.ne;intro y;omega) (by intro y;omega);have dj:=b7 b5 ag
 try simp only[Aa]
 rw[show ∀k:EV->R,N1 32 1 (.ptr Q 6) none none none k=k (.slice Q 6 32 32 false)from fun k=>rfl];have dl:Rd di.lift Rr q (0+6+1+1+2+2) body:=d5.chg L (S:=fun _=>False) ⟨fun i _ _=>Br _ _,aD _,fun w _ w2 _=>w2,fun y=>Db y⟩ id id;refine Ok.bC (S:=fun i=>i=Rr) (A9x (K:=K) (n:=32) dl (Db L) (by decide) (by omega)) (fun _ _ p=>p.2.2.1) ?_;rintro b8 dC ah s' ⟨ai,_,_,bo⟩ a5 ax bp;have X:=a5.hb bo;have ai:=ai.frame (a5.get _);rw[b6]at ai;have m:=d ax L m (by omega);have u:=d ax L u (by omega);have H:=d ax L H (by omega);have dm:=up dj ax;have hlen:lenOf b8=some 32:=by have:=ai.len;rw[G]at this;exact this
 have ca:Pk ah.lift 1 32 b8=some (Bj body):=by have:=ai.lift.cells;rw[G]at this;exact this
 have dt:=A8m (h:=ah.lift) (i:=Q) (n:=32) (r:=32) (op:=false) (t:=203) (hd:=[I kind,Nk .i64 A,Nk .i64 B,Nk .i64 C,Nk .i64 D,Nk .i64 F]) (Cv:=Bj D5) (by rw[Br];exact H) hlen (by decide) ca (by rw[Bg,G]) (by rw[Bg];rfl);have cb:=X _ _ H;refine Ok.Blb (S:=fun i=>i=Q) (by rcases bp with rfl|⟨w,rfl,_⟩<;>kernel_rfl) (by rcases bp with rfl|⟨w,rfl,_⟩<;>kernel_rfl) (fun w=>by rcases bp with rfl|⟨w,rfl,_⟩<;>kernel_rfl) (P:=fun v h'=>h'=ah.lift.put Q (.cells ([I kind,Nk .i64 A,Nk .i64 B,Nk .i64 C,Nk .i64 D,Nk .i64 F]++Bj body) 203)) ⟨_,_,dt,rfl⟩ (fun _ _ p=>by rw[p];exact(As.refl (S:=fun i=>i=Q) ah.lift).Ao (.inl rfl) (show Q<ah.lift.next from cb) _) ?_;rintro eu dD du s2 rfl cc ay _;have U:=ay.hb X;have H:du.get Q=some (.cells (⟨kind,A,B,C,D,F,body⟩:En).cells 203):=by rw[cc.get];exact Af _ _ _
 have m:=T ay X m (by omega);have u:=T ay X u (by omega);have dw:=b7 dm ay;generalize hE:(⟨kind,A,B,C,D,F,body⟩:En)=E at fin wfE H⊢;have el:=En.Ba wfE;rw[Cz H rfl,Aj el];simp only[Gu];refine(As7 (K:=K) wfE U hK).Am ?_;rintro _ V ⟨rfl,aj⟩;have M:=aj.hb U;have m:=aj.at U m;have u:=aj.at U u;have H:=aj.at U H;have a6:=dw.trans aj;have cf:=M _ _ H
 try simp only[Aa]
 rw[Aug];have ab:Ext V (V.new (.cells (Bj Wl) 245)):=As.new _ _;have g8:(V.new (.cells (Bj Wl) 245)).get V.next=some (.cells (Bj Wl) 245):=Ad _ _
 have m:=ab.at M m;have u:=ab.at M u;have H:=ab.at M H;have al:=ab.hb M;have a7:=a6.trans ab;have ch:h.next+2<=V.next:=by have:=x1.next;have:=a6.next;have:=M _ _ (by assumption:V.get (h.next+1)=some (.cells En.zero.cells 203));omega
 generalize V.new (.cells (Bj Wl) 245)=ad at ab g8 m u H al a7⊢;generalize V.next=P at g8 cf ch⊢
 have bl:(Bj (D7 E).1).length=44:=by rw[Bg,Akx wfE]
 refine Ok.st (Bj (D7 E).1) g8 rfl (by show Fl (Bj (D7 E).1)=44;rw[Bf,bl]) (Bl (by rw[Bg];exact bl.symm)) ?_;have l8:=al _ _ g8;have g8:(ad.put P (.cells (Bj (D7 E).1) 245)).get P=some (.cells (Bj (D7 E).1) 245):=Af _ _ _;have m:(ad.put P (.cells (Bj (D7 E).1) 245)).get h.next=some (.cells (Bj p) 245):=by rw[Ae _];exact m
 have u:(ad.put P (.cells (Bj (D7 E).1) 245)).get (h.next+1)=some (.cells En.zero.cells 203):=by rw[Ae _];exact u
 have H:(ad.put P (.cells (Bj (D7 E).1) 245)).get Q=some (.cells E.cells 203):=by rw[Ae _];exact H
 have ao:Ext h (ad.put P (.cells (Bj (D7 E).1) 245)):=a7.Ao (.inr (by omega)) l8 _;have aq:=al.put l8 (.cells (Bj (D7 E).1) 245);generalize ad.put P (.cells (Bj (D7 E).1) 245)=bu at g8 m u H ao aq⊢;simp only[I,Ac];have no:¬((D7 E).2=0/\(D7 E).1=p)->Ok (Bm (Df [(0,1),(1,1),(2,1),(3,1),(4,1),(5,1),(6,32)]) En.zero.cells [] fun dx=>stE 38 (.ptr (h.next+1) 0) dx bu fun z=>Ij TT [.c (.ptr (h.next+1) 0) 203,.v (.int .i64 10)] z) _:=fun dy=>by
  rw[Aw (l:=En.zero.cells) rfl];exact fin En.zero 10 bu _ (fun _=>rfl) aq ao u En.Gp (by rw[aM dy])
 by_cases h0:(D7 E).2=0
 ·rw[show decide (¬(D7 E).2=0)=false from aI fun y=>y h0]
  simp only[Aa];rw[Cz g8 rfl,Aj bl];simp only[Gu];rw[Cz m rfl,Aj ul];simp only[Gu];rw[Bg6 Bst (Akx wfE) hp];by_cases az:(D7 E).1=p
  ·rw[show decide (¬(D7 E).1=p)=false from aI fun y=>y az]
   simp only[Ah9,Aa,Ay7];rw[Cz H rfl,Aj el];exact fin E 0 bu _ (fun _=>rfl) aq ao u wfE (by rw[aQ ⟨h0,az⟩])
  ·rw[show decide (¬(D7 E).1=p)=true from aJ az]
   simp only[Ah9,Aa];exact no fun y=>az y.2
 ·rw[show decide (¬(D7 E).2=0)=true from aJ h0]
  simp only[Aa,Ah9];exact no fun y=>h0 y.1
def Vs(f:Fr):En × Int:=
 if ¬(ofF f.kind f.body).2=0 then(En.zero,(ofF f.kind f.body).2)else
 if ¬(Jl (ofF f.kind f.body).1 f.An f.off f.Au f.seq).2=0 then(En.zero,(Jl (ofF f.kind f.body).1 f.An f.off f.Au f.seq).2)else((ofF f.kind f.body).1,0)
theorem A30(w:f.Wf)(hb:HB h)(W:10000<K):
 Ok (Am0 K (.agg f.cells) h) fun v h'=>v=.tuple [.agg (Vs f).1.cells,I (Vs f).2]/\(Vs f).1.Wf/\Ext h h':=by
 have l0:f.cells[0]? = some (I f.kind):=rfl;have l1:f.cells[1]? = some (I f.An):=rfl;have Y:f.cells[2]? = some (I f.off):=rfl;have Z:f.cells[3]? = some (I f.Au):=rfl;have l4:f.cells[4]? = some (I f.seq):=rfl;have Q:=Fr.Ba w;have l5:Mu f.cells 5 44=some (Bj f.body):=by
  rw[E7 (by rw[Q];decide)];show some (List.take 44 (Bj f.body))=_;rw[bR (by rw[Bg,w.len];decide)]
 have zl:=En.Ba En.Gp;have m:=Bku (kind:=f.kind) w.len w.u8;have ol:=En.Ba m;simp only[Am0,Aa];rw[En.H2];have S:Ext h ((h.new (.cells f.cells 247)).new (.cells En.zero.cells 203)):=(As.new _ _).Da _;have d:((h.new (.cells f.cells 247)).new (.cells En.zero.cells 203)).get h.next=some (.cells f.cells 247):=by
  rw[Az _ (aR _)];exact Ad _ _
 have g2:((h.new (.cells f.cells 247)).new (.cells En.zero.cells 203)).get (h.next+1)=some (.cells En.zero.cells 203):=Ad _ _;have n1:((h.new (.cells f.cells 247)).new (.cells En.zero.cells 203)).next=h.next+2:=rfl
 rw[show(h.new (.cells f.cells 247)).next=h.next+1 from rfl];generalize (h.new (.cells f.cells 247)).new (.cells En.zero.cells 203)=h1 at S d g2 n1⊢;have o:=S.hb hb;have fin:∀(e:En) (C:Int) (u:Ab) (kk:Ab->R),(∀h',kk h'=Ij TT [.c (.ptr (h.next+1) 0) 203,.v (I C)] h')->HB u->Ext h u->u.get (h.next+1)=some (.cells En.zero.cells 203)->e.Wf->(e,C)=Vs f ->
  Ok (stE 38 (.ptr (h.next+1) 0) (.agg e.cells) u kk) fun v h'=>v=.tuple [.agg (Vs f).1.cells,I (Vs f).2]/\(Vs f).1.Wf/\Ext h h':=by
  intro e C u kk T y D X wf he;have fl:=En.Ba wf;refine Ok.st e.cells X rfl (by show Fl e.cells=38;rw[Bf,fl]) (Bl (by rw[zl];exact fl.symm)) ?_;have g6:(u.put (h.next+1) (.cells e.cells 203)).get (h.next+1)=some (.cells e.cells 203):=Af _ _ _;rw[T,Ea g6 Bf1.1 Bf1.2 fl,<-he];exact .ret ⟨rfl,wf,D.Ao (.inr (by omega)) (y _ _ X) _⟩
 rw[C0 d rfl,l0];simp only[Gu];rw[Cz d rfl,l5];simp only[Gu];refine(Bbs (K:=K) w.len w.u8 o W f.kind).Am ?_;rintro _ h2 ⟨rfl,E⟩;have A:=E.hb o;have U:=S.trans E;have d:=E.at o d;have g2:=E.at o g2;have n2:h.next+2<=h2.next:=by have:=E.next;omega
 try simp only[Aa]
 try rw[En.H2]
 have F:Ext h2 (h2.new (.cells En.zero.cells 203)):=As.new _ _;have j:(h2.new (.cells En.zero.cells 203)).get h2.next=some (.cells En.zero.cells 203):=Ad _ _
 have d:=F.at A d;have g2:=F.at A g2;have B:=F.hb A;have G:=U.trans F;generalize h2.new (.cells En.zero.cells 203)=H at F j d g2 B G⊢;generalize h2.next=P at j n2⊢
 refine Ok.st (ofF f.kind f.body).1.cells j rfl (by show Fl (ofF f.kind f.body).1.cells=38;rw[Bf,ol]) (Bl (by rw[zl];exact ol.symm)) ?_;have J:=B _ _ j;have j:(H.put P (.cells (ofF f.kind f.body).1.cells 203)).get P=some (.cells (ofF f.kind f.body).1.cells 203):=Af _ _ _;have d:(H.put P (.cells (ofF f.kind f.body).1.cells 203)).get h.next=some (.cells f.cells 247):=by rw[Ae _];exact d
 have g2:(H.put P (.cells (ofF f.kind f.body).1.cells 203)).get (h.next+1)=some (.cells En.zero.cells 203):=by rw[Ae _];exact g2
 have V:Ext h (H.put P (.cells (ofF f.kind f.body).1.cells 203)):=G.Ao (.inr (by omega)) J _;have g:=B.put J (.cells (ofF f.kind f.body).1.cells 203);generalize H.put P (.cells (ofF f.kind f.body).1.cells 203)=h4 at j d g2 V g⊢;unfold Vs at fin⊢;generalize (ofF f.kind f.body).2=C at fin⊢;generalize (ofF f.kind f.body).1=e at fin m ol j⊢;simp only[I,Ac];by_cases h0:C=0
 ·subst h0
  simp only[aC,aA,Aa,aY,Atb]at fin⊢;rw[Cz j rfl,Aj ol];simp only[Gu];rw[C0 d rfl,l1];simp only[Gu,Aa];rw[C0 d rfl,Y];simp only[Gu,Aa];rw[C0 d rfl,Z];simp only[Gu,Aa];rw[C0 d rfl,l4];simp only[Gu,Aa];refine(Afo (K:=K) m g W f.An f.off f.Au f.seq).Am ?_;rintro _ u ⟨rfl,D⟩;have y:=D.hb g;have g2:=D.at g g2;have j:=D.at g j;have L:=V.trans D;generalize (Jl e f.An f.off f.Au f.seq).2=M at fin⊢;simp only[Aa,I,Ac];by_cases O:M=0
  ·subst O
   simp only[aC,aA,Aa,aY,As8]at fin⊢;rw[Cz j rfl,Aj ol];exact fin e 0 u _ (fun _=>rfl) y L g2 m rfl
  ·simp only[O,aE,aB,Aa,bI]at fin⊢
   rw[Aw (l:=En.zero.cells) rfl];exact fin En.zero M u _ (fun _=>rfl) y L g2 En.Gp rfl
 ·simp only[h0,aE,aB,Aa,bI]at fin⊢
  rw[Aw (l:=En.zero.cells) rfl];exact fin En.zero C h4 _ (fun _=>rfl) g V g2 En.Gp rfl
theorem Bfd:∀(w a:Nat),Q5 (Vc w a)=a%256^w
 | 0,a=>by simp[Vc,Q5,Nat.mod_one]
 | w+1,a=>by
  rw[A08,A62,Bfd w a,Hv,Nat.mod_pow_succ]
theorem Awi {w:Nat}{b:Int}(h0:0<=v)(hb:v<=b)(hw:b<(256^w:Nat)):((Q5 (Vc w v.toNat):Nat):Int)=v:=by
 rw[Bfd,fL (by omega)];omega
theorem Btd {a b:List Nat}(h:a.length=n):(a++b).take n=a:=by subst h;simp
theorem Bsg {a b:List Nat}(h:a.length=n):(a++b).drop n=b:=by subst h;simp
theorem A36(w:e.Wf)(d:erB e=true):Abe e.kind (Zg e)=e:=by
 obtain⟨⟨g,b1⟩,⟨j,b2⟩,⟨a3,b3⟩,⟨a4,b4⟩,⟨m,o⟩,_⟩:=Bcg d;have u:=w.len;have t32:e.bytes.take 32=e.bytes:=bR (by omega);unfold Abe Zg;simp only[b9,Btd (Hv _ _),Bsg (Hv _ _),t32];rw[Awi (w:=6) g b1 (by decide),Awi (w:=1) (by omega) b4 (by decide),Awi (w:=1) j b2 (by decide),Awi (w:=2) m o (by decide),Awi (w:=2) a3 b3 (by decide)]
theorem Bj1(w:e.Wf)(d:erB e=true):ofF e.kind (Zg e)=(e,0):=by
 unfold ofF;rw[A36 w d];unfold D7;rw[aQ d];simp
theorem A56(w:e.Wf){An off Au seq:Int}(h:(Jl e An off Au seq).2=0):
 (Jl e An off Au seq).1=⟨e.kind,An,off,Au,seq,Zg e⟩/\frB ⟨e.kind,An,off,Au,seq,Zg e⟩=true/\erB e=true/\Vs ⟨e.kind,An,off,Au,seq,Zg e⟩=(e,0):=by
 by_cases d:erB e=true/\frB ⟨e.kind,An,off,Au,seq,(D7 e).1⟩=true/\e.first<=seq/\seq-e.count<e.first
 ·have hb:(D7 e).1=Zg e:=by unfold D7;rw[aQ d.1]
  have g:Jl e An off Au seq=(⟨e.kind,An,off,Au,seq,Zg e⟩,0):=by unfold Jl;rw[aQ d,hb]
  rw[hb]at d;refine⟨by rw[g],d.2.1,d.1,?_⟩;unfold Vs;simp only[Bj1 w d.1,g];simp
 ·exfalso
  unfold Jl at h;rw[aM d]at h;exact absurd h (by decide)
end Go.Ev
