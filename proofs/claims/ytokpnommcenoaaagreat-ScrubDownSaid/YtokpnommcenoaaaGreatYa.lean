import Derived.Test.YtokpnommcenoaaaGreatXb
import Derived.Test.YtokpnommcenoaaaGreatXa
set_option linter.all false
namespace Go.Ev
open Go.Proofs
set_option maxRecDepth 100000
variable {K P a b i n q t off:Nat}{k:EV->R}{p out:List Nat}{h h':Ab}{v kind:Int}{x:EV}{op:Bool}
abbrev Nk(k:IntKind)(a:Nat):EV:=.int k (Int.ofNat a)
theorem wrap_u8(a:Nat):Cx .u8 (Int.ofNat a)=Int.ofNat (a%256):=by
 rw[Ns];rfl
theorem wrap_u32(a:Nat):Cx .u32 (Int.ofNat a)=Int.ofNat (a%4294967296):=by
 rw[Ns];rfl
theorem Az6 {c:IntKind}:Sf .u8 (.int c (Int.ofNat a)) k=k (Nk .u8 (a%256)):=by
 rw[A5p,wrap_u8]
theorem Aqv:Agi (bin TT .shr t) (.int .i64 (Int.ofNat a)) (.int .u64 8) k=k (Nk .i64 (a/256)):=by
 show k (.int .i64 (.ofNat (Nat.shiftRight a 8)))=_;have:Nat.shiftRight a 8=a/256:=fI a 8;rw[this]
theorem Avp {s:Nat}(hs:s<=32):Agi (bin TT .shr t) (.int .u32 (Int.ofNat a)) (.int .u64 (Int.ofNat s)) k=k (Nk .u32 (a/2^s)):=by
 show k (.int .u32 (.ofNat (Nat.shiftRight a (Ax (Nat.ble s 32) s 32))))=_;rw[aO hs,Aj];have:Nat.shiftRight a s=a/2^s:=fI a s;rw[this]
theorem Bfz(d:a<4294967296)(hb:b<4294967296):Agi (bin TT .xor t) (.int .u32 (Int.ofNat a)) (.int .u32 (Int.ofNat b)) k=k (Nk .u32 (a ^^^ b)):=by
 show k (.int .u32 (Cx .u32 (.ofNat (Nat.xor a b))))=_;rw[wrap_u32];have:Nat.xor a b<2^32:=dZ (n:=32) d hb;rw[fK (by exact this)];rfl
theorem Blo(d:a<256)(hb:b<256):Agi (bin TT .xor t) (.int .u8 (Int.ofNat a)) (.int .u8 (Int.ofNat b)) k=k (Nk .u8 (a ^^^ b)):=by
 show k (.int .u8 (Cx .u8 (.ofNat (Nat.xor a b))))=_;rw[wrap_u8];have:Nat.xor a b<2^8:=dZ (n:=8) d hb;rw[fK (by exact this)];rfl
def wd:Nat->Nat->Nat
 | 0,_=>1
 | f+1,a=>if a/256=0 then 1 else wd f (a/256)+1
theorem Brt:∀(f a w:Nat),a<256^(f+1)->1<=w->(wd f a<=w↔a<256^w)
 | 0,a,w,h,hw=>by
  refine⟨fun _=>aN h (eO (by decide) (by omega)),fun _=>hw⟩
 | f+1,a,w,h,hw=>by
  unfold wd;by_cases h0:a/256=0
  ·rw[aQ h0]
   refine⟨fun _=>?_,fun _=>hw⟩;have:a<256:=by omega
   exact aN this (by have:=eO (n:=256) (by decide) hw;simpa using this)
  ·rw[aM h0]
   have d:=Brt f (a/256) (w-1) (by rw[dU]at h;exact fH (by rw[fS];exact h));by_cases g:w=1
   ·subst g
    refine⟨fun y=>?_,fun y=>?_⟩
    ·have:1<=wd f (a/256):=by cases f<;>unfold wd<;>(try split)<;>omega
     omega
    ·exfalso;apply h0;simp at y;omega
   ·have d:=d (by omega)
    obtain⟨v,rfl⟩:∃v,w=v+1:=⟨w-1,by omega⟩;rw[fX]at d;rw[dU];refine⟨fun y=>?_,fun y=>?_⟩
    ·have:=d.1 (by omega)
     have:=Nat.div_lt_iff_lt_mul (k:=256) (x:=a) (y:=256^v) (by decide);omega
    ·have:=d.2 (fH (by rw[fS];exact y))
     omega
theorem Bcr:∀(f m a n:Nat) (h:Ab),f<m->a<256^(f+1)->n+f<=100->f<=10 ->
 Lk K m (Nk .i64 a) (Nk .i64 n) h=Yr K (Nk .i64 (a/256^(wd f a-1))) (Nk .i64 (n+wd f a-1)) h:=by
 intro f;induction f with
 | zero=>
  intro m a n h hm d g j;obtain⟨m,rfl⟩:∃k,m=k+1:=⟨m-1,by omega⟩;have:a/256=0:=by simp at d;omega
  simp only[Lk,dr];rw[Aqv,this];simp only[Nk,Ac];rw[show decide ((0:Int)<Int.ofNat 0)=false from rfl];simp only[Aa,wd,fR,Nat.pow_zero,Nat.div_one,fX]
 | succ f o=>
  intro m a n h hm d g j;obtain⟨m,rfl⟩:∃k,m=k+1:=⟨m-1,by omega⟩;simp only[Lk,dr];rw[Aqv];simp only[Nk,Ac];unfold wd;by_cases h0:a/256=0
  ·rw[aQ h0,h0]
   rw[show decide ((0:Int)<Int.ofNat 0)=false from rfl];simp only[Aa,fR,Nat.pow_zero,Nat.div_one,fX]
  ·rw[aM h0,show decide ((0:Int)<Int.ofNat (a/256))=true from aJ (by show(0:Int)<((a/256:Nat):Int);omega)]
   simp only[Aa,Ap5];rw[Aqv];simp only[Nk,Ac];rw[show Cx .i64 (Int.ofNat n+1)=Int.ofNat (n+1)from Cg (by show _<=((n:Nat):Int)+1;omega) (by show((n:Nat):Int)+1<=_;omega)];have e:=o m (a/256) (n+1) h (by omega) (fH (by rw[fS,<-dU];exact d)) (by omega) (by omega);rw[e];have hw:1<=wd f (a/256):=by cases f<;>unfold wd<;>(try split)<;>omega
   obtain⟨u,hu⟩:∃u,wd f (a/256)=u+1:=⟨wd f (a/256)-1,by omega⟩;rw[hu,fX,show u+1+1-1=u+1 from rfl,Nat.pow_succ',eV,show n+1+(u+1)-1=n+(u+1+1)-1 by omega]
def Af2(a:Nat):Nat:=if 7<wd 7 a then 8 else wd 7 a
theorem A5u(g:a<9223372036854775808)(j:1000<K)(h:Ab):Ww K (.int .i64 (Int.ofNat a)) h=some (Nk .i64 (Af2 a),h):=by
 simp only[Ww,dr];unfold Af2;have e:=Bcr (K:=K) 7 K a 1 h (by omega) (Nat.lt_trans g (by decide)) (by decide) (by decide);have:(EV.int .i64 1)=Nk .i64 1:=rfl;rw[this,e];have hw:1<=wd 7 a:=by unfold wd;split<;>omega
 simp only[Yr,Nk,Ac];rw[show decide (Int.ofNat (a/256^(wd 7 a-1))<0)=false from aK (by show ¬(((a/256^(wd 7 a-1):Nat):Int)<0);exact Int.not_lt.2 (Int.natCast_nonneg _))];rw[show 1+wd 7 a-1=wd 7 a by omega];by_cases d:7<wd 7 a
 ·rw[show decide ((7:Int)<Int.ofNat (wd 7 a))=true from aJ (by show(7:Int)<((wd 7 a:Nat):Int);omega),aQ d]
  simp only[Aa,Yh];rfl
 ·rw[show decide ((7:Int)<Int.ofNat (wd 7 a))=false from aK (by show ¬((7:Int)<((wd 7 a:Nat):Int));omega),aM d]
  simp only[Aa,Yh,Apw]
theorem Bjw(g:1000<K)(h:Ab):Ww K (.int .i64 (Int.negSucc a)) h=some (I 8,h):=by
 obtain⟨m,rfl⟩:∃k,K=k+1:=⟨K-1,by omega⟩;simp only[Ww,Lk,dr];have e:∀k:EV->R,Agi (bin TT .shr 3) (.int .i64 (Int.negSucc a)) (.int .u64 8) k=k (.int .i64 ((Int.negSucc a).fdiv 256)):=fun k=>rfl
 have d:(Int.negSucc a).fdiv 256<0:=by
  rw[fG _ (by decide)];have:Int.negSucc a<0:=Int.negSucc_lt_zero a;omega
 rw[e];simp only[Ac];rw[show decide ((0:Int)<(Int.negSucc a).fdiv 256)=false from aK (by omega)];simp only[Aa,Yr,Ac];rw[show decide (Int.negSucc a<0)=true from aJ (Int.negSucc_lt_zero a)];simp only[Aa,Yh,I]
theorem A42 {w:Nat}(d:a<9223372036854775808)(g:1<=w)(j:w<=7):Af2 a<=w↔a<256^w:=by
 have:=Brt 7 a w (Nat.lt_trans d (by decide)) g;rw[<-this];unfold Af2;split<;>omega
def U2(w a:Nat):List Nat:=(List.range w).map fun i=>a/256^i%256
theorem A2b(w a:Nat):U2 (w+1) a=U2 w a++[a/256^w%256]:=by unfold U2;rw[dJ,bm];rfl
theorem Hq(w a:Nat):(U2 w a).length=w:=by simp[U2]
theorem Awq(a b:List Nat):Bk (a++b)=Bk a++Bk b:=bm
theorem Bg(a:List Nat):(Bk a).length=a.length:=bZ _
structure A3k(h:Ab)(P t:Nat)(out:List Nat)(bad:Bool):Prop where
 Mn:∃s q,h.get P=some (.cells [s,.bool bad] t)/\Cc h s q 5 1 out.length (Bk out)/\(0<out.length->P<q)
theorem Acq(n:Int)(h:Ab):Yf K (I n) h=some (.bool (decide (1<=n/\n<=7)),h):=by
 simp only[Yf,I,Ac,Aa];by_cases d:1<=n
 ·simp only[d,aB,Aa,Ac,Acp,gF]
 ·simp only[d,aA,Aa,Acp,gE]
theorem Blq {w:Nat}{bad:Bool}(C:a<9223372036854775808)(hw:w<=7)(D:out.length<=60000)(h0:Ab)(E:P<h0.next):∀(m i:Nat) (h:Ab),w-i<m->i<=w->HB h->Au (fun i=>P<=i) h0 h->A3k h P t (out++U2 i a) bad ->
 Ok (I7 K m (.ptr P 0) (Nk .i64 (a/256^i)) (I w) (I i) h) fun _ h'=>A3k h' P t (out++U2 w a) bad/\Au (fun i=>P<=i) h0 h'/\HB h':=by
 intro m;induction m with
 | zero=>intro i h hm;omega
 | succ m A=>
  intro i h hm F hb c p;obtain⟨s,q,g,r,l⟩:=p.Mn;simp only[I7,I,Ac,Aa];by_cases d:(i:Int)<w
  ·simp only[d,aB,Aa,Aah,Cz g rfl]
   rw[wrap_u8];have hlen:(out++U2 i a).length=out.length+i:=by rw[aG,Hq]
   refine L0 (z:=[.int .u8 0]) r hb rfl rfl rfl (by omega) (by omega) ?_;intro h2 B G c2;have gq:¬(0<(out++U2 i a).length/\P=q):=fun y=>by have:=l y.1;omega
   have o:=c2.at hb g gq;have u:=(c2.hb hb) _ _ o;refine Ok.st1 o rfl rfl (by show 0<2;decide) ?_;rw[Aqv];simp only[Aai,I,Ac];rw[Cg,eV,<-dU];have c3:Au (fun i=>P<=i) h (h2.put P (.cells ([s,EV.bool bad].set 0 (.slice (h.next+1) 0 ((out++U2 i a).length+1) ((out++U2 i a).length+1) true)) t)):=(c2.mono fun j hj=>by have:=l hj.1;show P<=j;omega).Ao (.inl (aD _)) u _;refine A (i+1) _ (by omega) (by omega) ((c2.hb hb).put u _) (c.trans c3) ?_;rw[A2b,<-b9];refine⟨_,h.next+1,Ae _ _ _,?_,fun _=>by have:=c.next;omega⟩;have e1:((out++U2 i a)++[a/256^i%256]).length=(out++U2 i a).length+1:=by rw[aG];rfl
   have e2:Bk ((out++U2 i a)++[a/256^i%256])=Bk (out++U2 i a)++EV.cells (Nk .u8 (a/256^i%256)):=by rw[Awq];rfl
   rw[e1,e2];refine B.frame fun _=>Af _ ?_
   have:=hb _ _ g;omega
  ·have:i=w:=by omega
   subst this;simp only[d,aA,Aa];exact .ret ⟨p,c,hb⟩
def fits(w:Nat)(v:Int):Bool:=decide (0<=v/\v<(256^w:Nat))
theorem Ln {w:Nat}{bad:Bool}(u:1000<K)(p:A3k h P t out bad)(hb:HB h)(B:out.length<=60000)(C:1<=w)(A:w<=7)(D : -9223372036854775808<=v/\v<=9223372036854775807):
 Ok (Ee K (.ptr P 0) (I w) (I v) h) fun _ h'=>A3k h' P t (if fits w v=true then out++U2 w v.toNat else out) (bad||!fits w v)/\Au (fun i=>P<=i) h h'/\HB h':=by
 obtain⟨s,q,g,r,l⟩:=p.Mn;have j:=hb _ _ g;simp only[Ee,dr];rw[Acq,aJ ⟨by omega,by omega⟩];simp only[Aa,Ac];have no:fits w v=false->Ok (stE 1 (.ptr P 1) (.bool true) h fun h=>some (.tuple [],h)) fun _ h'=>A3k h' P t (if fits w v=true then out++U2 w v.toNat else out) (bad||!fits w v)/\Au (fun i=>P<=i) h h'/\HB h':=by
  intro m;refine Ok.st1 g rfl rfl (by show 1<2;decide) ?_;refine .ret ⟨?_,(Au.refl (S:=fun i=>P<=i) h).Ao (.inl (aD _)) j _,hb.put j _⟩;rw[m,aM (by simp),cp,Bool.or_true];exact⟨s,q,Ae _ _ _,r.frame fun y=>Af _ (by have:=l y;omega),l⟩
 cases v with
 | negSucc a=>
  unfold I;rw[Bjw u,Ap];simp only[I,Ac];rw[show decide ((w:Int)<8)=true from aJ (by omega)];simp only[Aa,Pb];exact no (aK fun y=>absurd y.1 (by have:=Int.negSucc_lt_zero a;omega))
 | ofNat a=>
  have o:a<9223372036854775808:=by have:((a:Nat):Int)<=9223372036854775807:=D.2;omega
  unfold I;rw[A5u o u,Ap];have d:=A42 o C A;simp only[Nk,Ac];by_cases hw:Af2 a<=w
  ·have m:fits w (Int.ofNat a)=true:=aJ ⟨Int.natCast_nonneg a,by have:=d.1 hw;exact Int.ofNat_lt.2 this⟩
   rw[show decide ((w:Int)<Int.ofNat (Af2 a))=false from aK (by show ¬(w:Int)<((Af2 a:Nat):Int);omega)];simp only[Aa,Pb,Aan];have:=Blq (K:=K) (P:=P) (t:=t) (w:=w) (bad:=bad) o A B h j K 0 h (by omega) (cU _) hb (Au.refl _) (by simpa [U2]using p);rw[Nat.pow_zero,Nat.div_one]at this;rw[m,aQ rfl,eH,Bool.or_false];exact this
  ·rw[show decide ((w:Int)<Int.ofNat (Af2 a))=true from aJ (by show(w:Int)<((Af2 a:Nat):Int);omega)]
   simp only[Aa,Pb];exact no (aK fun y=>hw (d.2 (Int.ofNat_lt.1 y.2)))
theorem Axf{bad:Bool}{new:List Nat}(p:A3k h P t out bad)(hb:HB h)(C:out.length<=60000)(u:lenOf x=some n)(h0:0<n)(D:n<=5000)(A:O8 h 1 n x=some (Bk new))(m:new.length=n):
 Ok (Qd K (.ptr P 0) x h) fun _ h'=>A3k h' P t (out++new) bad/\Au (fun i=>P<=i) h h'/\HB h':=by
 obtain⟨s,q,g,r,l⟩:=p.Mn;have E:=hb _ _ g;simp only[Qd,Aa,Cz g rfl];obtain⟨h2,e,B,F,c2⟩:=Aac r u h0 (by omega) (by omega) A (by rw[Bg,m,bk]);rw[e,Ap];have gq:¬(0<out.length/\P=q):=fun y=>by have:=l y.1;omega
 have o:=c2.at hb g gq;have d:=(c2.hb hb) _ _ o
 try simp only[Aa]
 refine Ok.st1 o rfl rfl (by show 0<2;decide) ?_;refine .ret ⟨⟨_,h.next,Ae _ _ _,?_,fun _=>by omega⟩,(c2.mono fun j hj=>by have:=l hj.1;show P<=j;omega).Ao (.inl (aD _)) d _,(c2.hb hb).put d _⟩;rw[aG,m,Awq];exact B.frame fun _=>Af _
structure Bs(h:Ab)(x:EV)(b off:Nat)(l:List Nat):Prop where
 Mn:∃r op o row,x=.slice b off l.length r op/\l.length<=r/\h.get b=some o/\rowOf o=some row/\off+l.length<=row.length/\(row.drop off).take l.length=Bk l
theorem Bs.frame{l:List Nat}(s:Bs h x b off l)(e:h'.get b=h.get b):Bs h' x b off l:=by
 obtain⟨r,op,o,row,e1,e0,e2,e3,e4,e5⟩:=s.Mn;exact⟨r,op,o,row,e1,e0,by rw[e];exact e2,e3,e4,e5⟩
theorem Bs.lt{l:List Nat}(s:Bs h x b off l)(hb:HB h):b<h.next:=by
 obtain⟨r,op,o,row,e1,e0,e2,e3,e4,e5⟩:=s.Mn;exact hb _ _ e2
theorem Bs.ext{l:List Nat}(s:Bs h x b off l)(hb:HB h)(c:Ext h h'):Bs h' x b off l:=s.frame (c.get _ (s.lt hb) id)
theorem Bs.lift{l:List Nat}(s:Bs h x b off l):Bs h.lift x b off l:=s.frame (Br _ _)
theorem Bs.len{l:List Nat}(s:Bs h x b off l):lenOf x=some l.length:=by
 obtain⟨r,op,o,row,rfl,_⟩:=s.Mn;rfl
theorem Bs.Hc{l:List Nat}(s:Bs h x b off l)(k:EV->R):Ev.Hc x k=k (I l.length):=by
 obtain⟨r,op,o,row,rfl,_⟩:=s.Mn;rfl
theorem Bs.cells{l:List Nat}(s:Bs h x b off l):O8 h 1 l.length x=some (Bk l):=by
 obtain⟨r,op,o,row,rfl,e0,e2,e3,e4,e5⟩:=s.Mn;show Ax (Nat.beq l.length 0) (some []) (Ye h b off (Nat.mul l.length 1))=_;rw[show Nat.mul l.length 1=l.length from bk _];have d:Mj row off l.length=some (Bk l):=by rw[E6 e4,e5]
 cases g:l with
 | nil=>rfl
 | cons a r=>
  rw[show Nat.beq (a::r).length 0=false from rfl,Bc];unfold Ye;rw[e2,<-g];cases o<;>first|(cases e3;done)|(cases e3;exact d)
theorem Bs.ix{l:List Nat}(s:Bs h x b off l)(d:i<l.length):(∀k:EV->R,Aal 1 x (.int .i64 (i:Int)) k=k (.ptr b (off+i)))/\(∀k:EV->R,Fy (.ptr b (off+i)) h k=k (Nk .u8 l[i])):=by
 obtain⟨r,op,o,row,rfl,e0,e2,e3,e4,e5⟩:=s.Mn;refine⟨fun k=>by rw[N5 d,bk],fun k=>?_⟩;rw[Cz e2 e3];have:row[off+i]? = some (Nk .u8 l[i]):=by
  have e5:=congrArg (fun z=>z[i]?) e5;simp only[dY,d,bI,cX]at e5;rw[e5];unfold Bk;rw[bA,aH d];rfl
 rw[this];rfl
theorem Bs.take{l:List Nat}(s:Bs h x b off l)(j:n<=l.length):∃y,(∀k:EV->R,Aex 1 x none (some (.int .i64 (n:Int))) none k=k y)/\Bs h y b off (l.take n):=by
 obtain⟨r,op,o,row,rfl,e0,e2,e3,e4,e5⟩:=s.Mn;have d:(l.take n).length=n:=by rw[bH,dW j]
 refine⟨EV.slice b off n r op,fun k=>?_,⟨r,op,o,row,by rw[d],by rw[d];omega,e2,e3,by rw[d];omega,?_⟩⟩
 ·have:slc (EV.slice b off l.length r op) 1 none (some (.int .i64 (n:Int))) none=some (EV.slice b off n r op):=by
   have g:bound (some (.int .i64 (n:Int))) r l.length=some n:=by
    show Ax (Nat.ble n r) (some n) none=_;rw[aO (by omega),Aj]
   unfold slc;simp only[g];cases op with
   | true=>rfl
   | false=>
    show Ax (Nat.ble 0 r) (some (EV.slice b (Ax (Nat.beq r 0) off (Nat.add off (Nat.mul 0 1))) n r false)) none=_;rw[aO (cU _),Aj];have:Ax (Nat.beq r 0) off (Nat.add off (Nat.mul 0 1))=off:=by
     rw[show Nat.add off (Nat.mul 0 1)=off from rfl];cases Nat.beq r 0<;>rfl
    rw[this]
  unfold Aex;rw[this];rfl
 ·rw[d]
  have:=congrArg (fun z=>z.take n) e5;simp only[List.take_take,dW j]at this;rw[this];unfold Bk;rw[List.map_take]
theorem Bs.drop{l:List Nat}{r:Nat}(s:Bs h (.slice b off l.length r op) b off l)(B:n<l.length):(∀k:EV->R,Aex 1 (.slice b off l.length r op) (some (.int .i64 (n:Int))) none none k=k (.slice b (off+n) (l.length-n) (r-n) op))/\Bs h (.slice b (off+n) (l.length-n) (r-n) op) b (off+n) (l.drop n):=by
 obtain⟨C,m,o,row,e1,e0,e2,e3,e4,e5⟩:=s.Mn;injection e1 with _ _ _ u y;subst u y;have d:(l.drop n).length=l.length-n:=by rw[aU]
 refine⟨fun k=>?_,⟨r-n,op,o,row,by rw[d],by rw[d];omega,e2,e3,by rw[d];omega,?_⟩⟩
 ·have:slc (.slice b off l.length r op) 1 (some (.int .i64 (n:Int))) none none=some (.slice b (off+n) (l.length-n) (r-n) op):=by
   have g:bound (some (.int .i64 (n:Int))) l.length 0=some n:=by
    show Ax (Nat.ble n l.length) (some n) none=_;rw[aO (by omega),Aj]
   have j:bound none r l.length=some l.length:=rfl;unfold slc;simp only[g,j];cases op with
   | true=>
    rw[Aj];cases n with
    | zero=>rfl
    | succ n=>
     rw[show Nat.beq (n+1) 0=false from rfl,Bc,aO (by show n+1+1<=r;omega),Aj,show Nat.mul (n+1) 1=n+1 from bk _];rfl
   | false=>
    rw[Bc,aO (by show n<=r;omega),Aj,show Nat.mul n 1=n from bk _];have:Nat.beq r n=false:=by
     cases A:Nat.beq r n with
     | false=>rfl
     | true=>have:=aL A;omega
    rw[this,Bc];rfl
  unfold Aex;rw[this];rfl
 ·have:=congrArg (fun z=>z.drop n) e5
  rw[d];simp only[List.drop_take,cD]at this;rw[this];unfold Bk;rw[List.map_drop]
theorem Cc.bs{s:EV}{l:List Nat}(r:Cc h s q 5 1 l.length (Bk l))(d:0<l.length):Bs h s q 0 l:=by
 refine⟨l.length,true,_,Bk l,r.slice d,aD _,r.block d,rfl,by rw[Bg,bF];exact aD _,?_⟩;rw[dE,<-Bg,cL]
def Btt:EV->Nat
 | .int _ x=>x.toNat
 | _=>0
noncomputable def Bcv:List Nat:=Be.map Btt
theorem Bhf:Be=Bcv.map (Nk .u32):=by kernel_rfl
theorem Bs3:Bcv.all (fun n=>Nat.blt n 4294967296)=true:=by kernel_rfl
theorem Bph:Bcv.length=256:=by kernel_rfl
noncomputable def A5j(r c:Nat):Nat:=(r/256) ^^^ (Bcv[(r%256) ^^^ c]?).getD 0
theorem Bep(g:i<256):Be[i]? = some (Nk .u32 ((Bcv[i]?).getD 0))/\(Bcv[i]?).getD 0<4294967296:=by
 have d:i<Bcv.length:=by rw[Bph];exact g
 rw[Bhf,bA,aH d];refine⟨rfl,?_⟩;have:=dP.1 Bs3 _ (av d);exact bB this
theorem Bo6 {r c:Nat}(j:r<4294967296)(d:c<256):A5j r c<4294967296:=by
 unfold A5j;have g:(r%256) ^^^ c<2^8:=dZ (n:=8) (Nat.mod_lt _ (by decide)) d;exact dZ (n:=32) (by show r/256<4294967296;omega) (Bep g).2
theorem Bp7{r c:Nat}(u:r<4294967296)(g:c<256):Ok (Xv K Uh (Nk .u32 r) (Nk .u8 c) h) fun v h'=>v=Nk .u32 (A5j r c)/\Ext h h':=by
 unfold Uh;simp only[Xv,Aa];obtain⟨y,j,m,o,_⟩:=nW h (.cells Be 119);rw[j];rw[show ∀k:EV->R,Agi (bin TT .shr 117) (Nk .u32 r) (.int .u64 8) k=k (Nk .u32 (r/256))from fun k=>Avp (s:=8) (by decide)];have d:(r%256) ^^^ c<256:=dZ (n:=8) (Nat.mod_lt _ (by decide)) g;rw[wrap_u8,Blo (Nat.mod_lt _ (by decide)) g,show ∀k:EV->R,Axi 256 1 (.ptr h.next 0) (Nk .u8 ((r%256) ^^^ c)) k=k (.ptr h.next (0+((r%256) ^^^ c)*1))from fun k=>Vo d];rw[Cz o rfl,bF,bk,(Bep d).1];simp only[Gr];rw[Bfz (by omega) (Bep d).2];exact .ret ⟨rfl,m⟩
noncomputable def Ayo(r:Nat)(l:List Nat):Nat:=l.foldl A5j r
theorem Az9:∀(l:List Nat) (r:Nat),r<4294967296->(∀b∈l,b<256)->Ayo r l<4294967296
 | [],r,d,_=>d
 | c::l,r,d,g=>Az9 l (A5j r c) (Bo6 d (g c (aV ..))) fun b hb=>g b (aT _ hb)
theorem Bgx {T:Nat}{l:List Nat}(u:∀b∈l,b<256)(D:l.length<=5000){r0:Nat}(h0:r0<4294967296):∀(m i:Nat) (h:Ab),l.length-i<m->i<=l.length->HB h->h.get T=some (.cells Be 119)->Bs h x b off l ->
 Ok (M0 K m (.ptr T 0) (Nk .u32 (Ayo r0 (l.take i))) x (I l.length) (I i) h) fun v h'=>v=Nk .u32 (Ayo r0 l)/\Ext h h':=by
 intro m;induction m with
 | zero=>intro i h hm;omega
 | succ m A=>
  intro i h hm E hb y s;simp only[M0,I,Ac,Aa];by_cases g:(i:Int)<l.length
  ·have d:i<l.length:=by omega
   obtain⟨e1,e2⟩:=s.ix d;simp only[g,aB,Aa,Ahi,e1,e2,Cy y rfl];rw[Ak Pv];simp only[Gr];have o:∀b∈l.take i,b<256:=fun b hb=>u b (bO hb)
   refine(Bp7 (K:=K) (Az9 _ _ h0 o) (u _ (av d))).Am ?_;rintro _ B ⟨rfl,j⟩;simp only[Ah1,I,Ac];rw[Cg];have e:A5j (Ayo r0 (l.take i)) l[i]=Ayo r0 (l.take (i+1)):=by
    unfold Ayo;rw[List.take_add_one,List.foldl_append,aH d];rfl
   rw[e];refine(A (i+1) B (by omega) (by omega) (j.hb hb) (j.at hb y) (s.ext hb j)).mono ?_;rintro v h' ⟨e,C⟩;exact⟨e,j.trans C⟩
  ·have:i=l.length:=by omega
   subst this;simp only[g,aA,Aa,Aig,cL];exact .ret ⟨rfl,Au.refl _⟩
noncomputable def F0(l:List Nat):Nat:=Ayo 4294967295 l ^^^ 4294967295
theorem Bc2 {l:List Nat}(d:∀b∈l,b<256):F0 l<4294967296:=dZ (n:=32) (Az9 l _ (by decide) d) (by decide)
theorem A8c{l:List Nat}(A:10000<K)(s:Bs h x b off l)(hb:HB h)(g:∀b∈l,b<256)(j:l.length<=5000):Ok (Oe K Uh x h) fun v h'=>v=Nk .u32 (F0 l)/\Ext h h':=by
 unfold Uh;simp only[Oe,Aa];obtain⟨m,o,d,u,_⟩:=nW h (.cells Be 119);rw[o];have s1:=s.ext hb d;simp only[Ag1,s1.Hc,dr];refine(Bgx (K:=K) g j (r0:=4294967295) (by decide) K 0 m (by omega) (cU _) (d.hb hb) u s1).Am ?_;rintro _ h2 ⟨rfl,y⟩;rw[show ∀k:EV->R,Agi (bin TT .xor 117) (Nk .u32 (Ayo 4294967295 l)) (.int .u32 4294967295) k=k (Nk .u32 (F0 l))from fun k=>Bfz (b:=4294967295) (Az9 l _ (by decide) g) (by decide)];exact .ret ⟨rfl,d.trans y⟩
theorem Cc.cells{s:EV}{l:List Nat}(r:Cc h s q 5 1 l.length (Bk l)):O8 h 1 l.length s=some (Bk l):=by
 rcases eh l.length with h0|d
 ·have:l = []:=bX.1 h0
  subst this;rcases r with⟨_,_,rfl|⟨b,rfl⟩⟩|⟨y,_⟩
  ·rfl
  ·rfl
  ·exact absurd y (bS _)
 ·exact(r.bs d).cells
theorem Ax9{s:EV}(g:h.get P=some (.cells [s,.bool false] t))(r:Cc h s q 5 1 out.length (Bk out))(hb:HB h)(B:out.length<=60000):
 Ok (Oa K (.ptr P 0) h) fun v h'=>∃y q',v=.tuple [y,I 0]/\Cc h' y q' 5 1 out.length (Bk out)/\Ext h h'/\HB h'/\(0<out.length->h.next<=q'):=by
 simp only[Oa,Aa,Cz g rfl,Akb];rw[show Bz [(.int .u8 0)] 5 1 0 [] h=some (.slice h.next 0 0 0 false,h.new (.cells [] 5))from rfl,Ap];have d:Ext h (h.new (.cells [] 5)):=Au.new _ _;have m:=d.at hb g;have j:Cc (h.new (.cells [] 5)) s q 5 1 out.length (Bk out):=r.frame fun y=>d.get _ (hb _ _ (r.block y)) id
 generalize h.new (.cells [] 5)=C at d m j⊢;simp only[Aa,Cz m rfl];refine(Xo (b:=h.next) (e:=5) j.len (by omega) j.cells (by rw[Bg,bk]) 0).Am ?_;rintro v h2 ⟨q',u,o,A⟩;refine .ret ⟨v,q',rfl,u,d.trans o,(d.trans o).hb hb,fun y=>?_⟩;have:=A y;have:=d.next
 omega
theorem A08(p:A3k h P t out false)(hb:HB h)(d:out.length<=60000):
 Ok (Oa K (.ptr P 0) h) fun v h'=>∃y q',v=.tuple [y,I 0]/\Cc h' y q' 5 1 out.length (Bk out)/\Ext h h'/\HB h'/\(0<out.length->h.next<=q'):=by
 obtain⟨s,q,g,r,_⟩:=p.Mn;exact Ax9 g r hb d
theorem Bu2(s:Nat):U2 4 s = [s%256,s/256%256,s/65536%256,s/16777216%256]:=by
 simp[U2,dJ]
theorem Bsv(a b c d:Int)(h:Ab):Bz [(.int .u8 0)] 5 1 4 [(0,.int .u8 a),(1,.int .u8 b),(2,.int .u8 c),(3,.int .u8 d)] h=some (.slice h.next 0 4 4 false,h.new (.cells [.int .u8 a,.int .u8 b,.int .u8 c,.int .u8 d] 5)):=rfl
theorem Bqt{l:List Nat}(O:10000<K)(s:Bs h x b off l)(hb:HB h)(Q:∀b∈l,b<256)(h0:0<l.length)(S:l.length<=5000):
 Ok (Yz K Uh x h) fun v h'=>∃q',Cc h' v q' 5 1 (l++U2 4 (F0 l)).length (Bk (l++U2 4 (F0 l)))/\Ext h h'/\HB h'/\h.next<=q':=by
 unfold Uh;simp only[Yz,Aa];obtain⟨h1,T,g,U,_⟩:=nW h (.cells Be 119);rw[T];have d:=g.hb hb;rw[Cy U rfl,Ak Pv];simp only[Gr];refine(A8c (K:=K) O (s.ext hb g) d Q S).Am ?_;rintro _ h2 ⟨rfl,m⟩;have o:=m.hb d;have s2:=(s.ext hb g).ext d m;rw[show Bz [(.int .u8 0)] 5 1 0 [] h2=some (.slice h2.next 0 0 0 false,h2.new (.cells [] 5))from rfl,Ap];have A:Ext h2 (h2.new (.cells [] 5)):=Au.new _ _;have C:=s2.ext o A;have n3:(h2.new (.cells [] 5)).next=h2.next+1:=rfl
 generalize h2.new (.cells [] 5)=h3 at A C n3⊢;have D:=A.hb o;refine(Xo (b:=h2.next) (e:=5) C.len (by omega) C.cells (by rw[Bg,bk]) 0).Am ?_;rintro v h4 ⟨q',J,E,V⟩;have F:=E.hb D;rw[show ∀k:EV->R,Sf .u8 (Nk .u32 (F0 l)) k=k (Nk .u8 (F0 l%256))from fun k=>Az6];rw[show ∀k:EV->R,Agi (bin TT .shr 117) (Nk .u32 (F0 l)) (.int .u64 8) k=k (Nk .u32 (F0 l/256))from fun k=>Avp (s:=8) (by decide)];rw[show ∀k:EV->R,Sf .u8 (Nk .u32 (F0 l/256)) k=k (Nk .u8 (F0 l/256%256))from fun k=>Az6];rw[show ∀k:EV->R,Agi (bin TT .shr 117) (Nk .u32 (F0 l)) (.int .u64 16) k=k (Nk .u32 (F0 l/65536))from fun k=>Avp (s:=16) (by decide)];rw[show ∀k:EV->R,Sf .u8 (Nk .u32 (F0 l/65536)) k=k (Nk .u8 (F0 l/65536%256))from fun k=>Az6];rw[show ∀k:EV->R,Agi (bin TT .shr 117) (Nk .u32 (F0 l)) (.int .u64 24) k=k (Nk .u32 (F0 l/16777216))from fun k=>Avp (s:=24) (by decide)];rw[show ∀k:EV->R,Sf .u8 (Nk .u32 (F0 l/16777216)) k=k (Nk .u8 (F0 l/16777216%256))from fun k=>Az6];rw[Bsv,Ap];have B:Ext h4 (h4.new (.cells (Bk (U2 4 (F0 l))) 5)):=Au.new _ _;have e5:Bk (U2 4 (F0 l)) = [Nk .u8 (F0 l%256),Nk .u8 (F0 l/256%256),Nk .u8 (F0 l/65536%256),Nk .u8 (F0 l/16777216%256)]:=by rw[Bu2];rfl
 rw[e5]at B;have L:Cc (h4.new (.cells [Nk .u8 (F0 l%256),Nk .u8 (F0 l/256%256),Nk .u8 (F0 l/65536%256),Nk .u8 (F0 l/16777216%256)] 5)) v q' 5 1 l.length (Bk l):=J.frame fun y=>B.get _ (F _ _ (J.block y)) id
 have M:(h4.new (.cells [Nk .u8 (F0 l%256),Nk .u8 (F0 l/256%256),Nk .u8 (F0 l/65536%256),Nk .u8 (F0 l/16777216%256)] 5)).get h4.next=some (.cells [Nk .u8 (F0 l%256),Nk .u8 (F0 l/256%256),Nk .u8 (F0 l/65536%256),Nk .u8 (F0 l/16777216%256)] 5):=Ad _ _
 have W:(h4.new (.cells [Nk .u8 (F0 l%256),Nk .u8 (F0 l/256%256),Nk .u8 (F0 l/65536%256),Nk .u8 (F0 l/16777216%256)] 5)).next=h4.next+1:=rfl
 generalize h4.new (.cells [Nk .u8 (F0 l%256),Nk .u8 (F0 l/256%256),Nk .u8 (F0 l/65536%256),Nk .u8 (F0 l/16777216%256)] 5)=G at B L M W⊢;have H:O8 G 1 4 (.slice h4.next 0 4 4 false)=some (Bk (U2 4 (F0 l))):=by
  show Ye G h4.next 0 4=_
  unfold Ye Ave;rw[M,e5];rfl
 obtain⟨X,e6,Y,n6,Z⟩:=Aac L rfl (by decide) (by decide) (by omega) H (by rw[Bg,Hq]);rw[e6,Ap];have hq:=V h0;have u:Ext h X:=by
  refine((g.trans m).trans ((A.trans E).trans B)).then Z fun j hj aa=>?_
  have:=g.next;have:=m.next;have:=hj.2;omega
 refine .ret ⟨G.next,?_,u,u.hb hb,?_⟩
 ·rw[Awq,aG,Hq];exact Y
 ·have:=g.next;have:=m.next;have:=E.next;omega
theorem Bs9(k:EV->R):Ko Aoa (bin TT .neq t) (Nk .u8 a) (Nk .u8 b) k=k (.bool (decide (¬a=b))):=by
 show k (Aoa .u8 (Int.ofNat a) (Int.ofNat b))=_;rw[Be3,A0a,Av4];exact congrArg (fun b=>k (.bool b)) (eS.2 (not_congr ⟨Int.ofNat.inj,congrArg _⟩))
noncomputable def A8y(l:List Nat):Bool:=decide (U2 4 (F0 (l.take (l.length-4)))=l.drop (l.length-4))
def Brp(h:Ab)(l:List Nat)(v:EV)(h':Ab):Prop:=Ext h h'/\HB h'/\((A8y l=false/\v=.tuple [.Al,I 11])\/(A8y l=true/\∃y q',v=.tuple [y,I 0]/\Cc h' y q' 5 1 (l.take (l.length-4)).length (Bk (l.take (l.length-4)))/\h.next<=q'))
theorem Bj6 {y:EV}{g:Nat}{l:List Nat}(h4:4<l.length)(W:l.length<=5000)(M:∀b∈l,b<256)(h0:Ab):∀(m i:Nat) (h:Ab),4-i<m->i<=4->HB h->Ext h0 h->Bs h x b off l->Bs h y b g (l.drop (l.length-4))->(∀j (hj:j<i),(l.drop (l.length-4))[j]? = some (F0 (l.take (l.length-4))/256^j%256)) ->
 Ok (Nz K m x (I ((l.length-4:Nat):Int)) (Nk .u32 (F0 (l.take (l.length-4))/256^i)) y (I 4) (I i) h) (Brp h0 l):=by
 intro m;have hd:(l.drop (l.length-4)).length=4:=by rw[aU];omega
 have hs:=Bc2 (l:=l.take (l.length-4)) fun b hb=>M b (bO hb)
 induction m with
 | zero=>intro i h hm;omega
 | succ m O=>
  intro i h hm X hb A F G hj;simp only[Nz,I,Ac,Aa];by_cases o:(i:Int)<4
  ·have d:i<(l.drop (l.length-4)).length:=by omega
   obtain⟨e1,e2⟩:=G.ix d;simp only[o,aB,Aa,Ah6,e1,e2];rw[wrap_u8];rw[Bs9];by_cases B:(l.drop (l.length-4))[i]=F0 (l.take (l.length-4))/256^i%256
   ·simp only[B,aC,aA,Aa,Aib]
    rw[show ∀k:EV->R,Agi (bin TT .shr 117) (Nk .u32 (F0 (l.take (l.length-4))/256^i)) (.int .u64 8) k=k (Nk .u32 (F0 (l.take (l.length-4))/256^i/256))from fun k=>Avp (s:=8) (by decide)];simp only[Ah0,I,Ac];rw[Cg,eV,<-dU];refine O (i+1) h (by omega) (by omega) hb A F G fun j Q=>?_
    by_cases D:j=i
    ·subst D;rw[aH d,B]
    ·exact hj j (by omega)
   ·simp only[B,aF,aB,Aa]
    refine .ret ⟨A,hb,.inl ⟨aK fun y=>B ?_,rfl⟩⟩;have:=congrArg (fun z=>z[i]?) y;simp only[U2]at this;rw[aH d,bA,cQ (by omega)]at this;exact(fU this).symm
  ·have:i=4:=by omega
   subst this;simp only[o,aA,Aa,Aht];have S:A8y l=true:=aJ (by
    apply eE;intro j;by_cases u:j<4
    ·rw[hj j u];unfold U2;rw[bA,cQ u];rfl
    ·rw[cF (by rw[Hq];omega),cF (by omega)])
   rw[show Bz [(.int .u8 0)] 5 1 0 [] h=some (.slice h.next 0 0 0 false,h.new (.cells [] 5))from rfl,Ap];have C:Ext h (h.new (.cells [] 5)):=Au.new _ _;have H:=F.ext hb C;have n3:(h.new (.cells [] 5)).next=h.next+1:=rfl
   generalize h.new (.cells [] 5)=Y at C H n3⊢;have E:=C.hb hb;obtain⟨w,e3,J⟩:=H.take (n:=l.length-4) (by omega);rw[e3];refine(Xo (b:=h.next) (e:=5) J.len (by rw[bH];omega) J.cells (by rw[Bg,bk]) 0).Am ?_;rintro v T ⟨q',U,L,V⟩;refine .ret ⟨A.trans (C.trans L),L.hb E,.inr ⟨S,v,q',rfl,U,?_⟩⟩;have:=V (by rw[bH];omega);have:=A.next
   omega
theorem Bo0{r:Nat}{l:List Nat}(A:10000<K)(s:Bs h (.slice b off l.length r op) b off l)(hb:HB h)(u:∀b∈l,b<256)(h4:4<l.length)(B:l.length<=5000):
 Ok (Xm K Uh (.slice b off l.length r op) h) (Brp h l):=by
 unfold Uh;simp only[Xm,Aa];obtain⟨H,C,m,y,_⟩:=nW h (.cells Be 119);rw[C];have d:=m.hb hb;have s1:=s.ext hb m;have D:=d _ _ y;simp only[Ac];rw[Cg,show(l.length:Int)-4=((l.length-4:Nat):Int) by omega,show decide (((l.length-4:Nat):Int)<0)=false from aK (by omega)];simp only[Aa,Aio,Ce D,Ar,Cy y rfl,Ak Pv];obtain⟨w,e3,E⟩:=s1.take (n:=l.length-4) (by omega);rw[e3];refine Ok.bE (A8c (K:=K) A E.lift (Da d) (fun b hb=>u b (bO hb)) (by rw[bH];omega)) (fun _ _ p=>p.2) ?_;rintro _ h2 F ⟨rfl,_⟩ sm g;have o:=g.hb d;obtain⟨e5,G⟩:=(s1.ext d g).drop (n:=l.length-4) (by omega);rw[e5];simp only[Aa];have:=Bj6 (K:=K) (x:=.slice b off l.length r op) h4 B u h K 0 F (by omega) (by decide) o (m.trans g) (s1.ext d g) G (fun j hj=>absurd hj (cn _));rw[Nat.pow_zero,Nat.div_one]at this;rw[show l.length-(l.length-4)=4 by omega]at this⊢;exact this
structure Rd(h:Ab)(R q off:Nat)(l:List Nat):Prop where
 Mn:∃s,h.get R=some (.cells [s,.bool false] 365)/\lenOf s=some l.length/\(0<l.length->s=.slice q off l.length l.length true/\Bs h s q off l)
 ne:q<R
theorem Rd.ext{R:Nat}{l:List Nat}(d:Rd h R q off l)(hb:HB h)(c:Ext h h'):Rd h' R q off l:=by
 obtain⟨s,g,e,f⟩:=d.Mn;exact⟨⟨s,c.at hb g,e,fun y=>⟨(f y).1,(f y).2.ext hb c⟩⟩,d.ne⟩
theorem Ae6{l:List Nat}(s:Bs h x b off l)(hb:HB h)(h0:0<l.length)(C:l.length<=5000):
 Ok (Aae K x h) fun v h'=>∃R q,v=.ptr R 0/\Rd h' R q 0 l/\Ext h h'/\HB h'/\h.next<=q:=by
 simp only[Aae,dr];rw[show Bz [(.int .u8 0)] 5 1 0 [] h=some (.slice h.next 0 0 0 false,h.new (.cells [] 5))from rfl,Ap];have g:Ext h (h.new (.cells [] 5)):=Au.new _ _;have s1:=s.ext hb g;generalize h.new (.cells [] 5)=D at g s1⊢;have j:=g.hb hb;refine(Xo (b:=h.next) (e:=5) s1.len (by omega) s1.cells (by rw[Bg,bk]) 0).Am ?_;rintro v h2 ⟨q',m,y,A⟩;have d:=y.hb j;have o:=m.slice h0;subst o;rw[Aw (l:=[.slice q' 0 l.length l.length true,.bool false]) rfl];simp only[Aa];have u:Ext h2 (h2.new (.cells [.slice q' 0 l.length l.length true,.bool false] 365)):=Au.new _ _;have B:=(m.bs h0).ext d u;refine .ret ⟨h2.next,q',rfl,⟨⟨_,Ad _ _,rfl,fun _=>⟨rfl,B⟩⟩,d _ _ (m.block h0)⟩,g.trans (y.trans u),u.hb d,?_⟩;have:=A h0;have:=g.next
 omega
theorem Bab{R:Nat}{l:List Nat}(d:Rd h R q off l)(hb:HB h)(h0:0<n)(A:n<=l.length):
 Ok (Jz K (.ptr R 0) (I n) h) fun v h'=>Bs h' v q off (l.take n)/\Rd h' R q (off+n) (l.drop n)/\Au (fun i=>i=R) h h'/\HB h':=by
 obtain⟨s,g,e,f⟩:=d.Mn;obtain⟨rfl,s1⟩:=f (by omega);have u:=hb _ _ g;have B:R≠q:=by have:=d.ne;omega
 simp only[Jz,Aa,Cz g rfl,Ac,I];rw[show decide ((n:Int)<0)=false from aK (by omega)];simp only[Aa,Abk,Ac,Cz g rfl];rw[show decide ((l.length:Int)<(n:Int))=false from aK (by omega)];simp only[Aa,Abv,Acd,Cz g rfl];have e1:∀k:EV->Go.Ev.R,Aex 1 (.slice q off l.length l.length true) none (some (.int .i64 (n:Int))) (some (.int .i64 (n:Int))) k=k (.slice q off n n false):=fun k=>by
  have:slc (.slice q off l.length l.length true) 1 none (some (.int .i64 (n:Int))) (some (.int .i64 (n:Int)))=some (.slice q off n n false):=by
   have b1:bound (some (.int .i64 (n:Int))) l.length 0=some n:=by
    show Ax (Nat.ble n l.length) (some n) none=_;rw[aO A,Aj]
   have b2:bound (some (.int .i64 (n:Int))) n 0=some n:=by
    show Ax (Nat.ble n n) (some n) none=_;rw[aO (aD _),Aj]
   unfold slc;simp only[b1,b2];show some (EV.slice q (Ax (Nat.beq n 0) off (Nat.add off (Nat.mul 0 1))) n n false)=_;rw[show Nat.add off (Nat.mul 0 1)=off from rfl];cases Nat.beq n 0<;>rfl
  unfold Aex;rw[this];rfl
 rw[e1];obtain⟨L,G,o,row,f1,f0,f2,f3,f4,f5⟩:=s1.Mn;have j:(l.take n).length=n:=by rw[bH,dW A]
 have m:(l.drop n).length=l.length-n:=aU;have F:Bs h (.slice q off n n false) q off (l.take n):=by
  refine⟨n,false,o,row,by rw[j],by rw[j];exact aD _,f2,f3,by rw[j];omega,?_⟩;rw[j];have:=congrArg (fun z=>z.take n) f5;simp only[List.take_take,dW A]at this;rw[this];unfold Bk;rw[List.map_take]
 have put:∀w:EV,(h.put R (.cells [w,.bool false] 365)).get q=h.get q:=fun w=>Af _ B
 rcases dL n l.length with C|H
 ·obtain⟨e2,s2⟩:=s1.drop C
  rw[e2];refine Ok.st1 g rfl rfl (by show 0<2;decide) ?_;refine .ret ⟨F.frame (put _),⟨⟨_,Ae _ _ _,by rw[m];rfl,fun _=>⟨by rw[m],s2.frame (put _)⟩⟩,d.ne⟩,(Au.refl (S:=fun i=>i=R) h).Ao (.inl rfl) u _,hb.put u _⟩
 ·have D:n=l.length:=by omega
  subst D;have e2:∀k:EV->Go.Ev.R,Aex 1 (.slice q off l.length l.length true) (some (.int .i64 (l.length:Int))) none none k=k (.tail q (off+l.length) off):=fun k=>by
   have:slc (.slice q off l.length l.length true) 1 (some (.int .i64 (l.length:Int))) none none=some (.tail q (off+l.length) off):=by
    have b1:bound (some (.int .i64 (l.length:Int))) l.length 0=some l.length:=by
     show Ax (Nat.ble l.length l.length) (some l.length) none=_;rw[aO (aD _),Aj]
    have b2:bound none l.length l.length=some l.length:=rfl;unfold slc;simp only[b1,b2];rw[Aj];have z1:Nat.beq l.length 0=false:=by
     cases E:Nat.beq l.length 0 with
     | false=>rfl
     | true=>have:=aL E;omega
    have J:Nat.ble (Nat.succ l.length) l.length=false:=by
     cases E:Nat.ble (Nat.succ l.length) l.length with
     | false=>rfl
     | true=>have:=bB E;omega
    rw[z1,Bc,J,Bc,cI,Aj,Aj,show Nat.mul l.length 1=l.length from bk _];rfl
   unfold Aex;rw[this];rfl
  rw[e2];refine Ok.st1 g rfl rfl (by show 0<2;decide) ?_;refine .ret ⟨F.frame (put _),⟨⟨_,Ae _ _ _,by rw[m,fR];rfl,fun y=>by rw[m,fR]at y;exact absurd y (bS _)⟩,d.ne⟩,(Au.refl (S:=fun i=>i=R) h).Ao (.inl rfl) u _,hb.put u _⟩
def Qs:List Nat->Nat
 | []=>0
 | b::r=>b+256*Qs r
theorem A54:∀(a:List Nat) (b:Nat),Qs (a++[b])=Qs a+256^a.length*b
 | [],b=>by simp[Qs]
 | x::a,b=>by
  have:=A54 a b;simp only[List.cons_append,Qs,this,bK,dU];rw[Nat.mul_add,<-Nat.add_assoc,fS (256^a.length) 256,Nat.mul_assoc]
theorem A69:∀(a:List Nat),(∀b∈a,b<256)->Qs a<256^a.length
 | [],_=>by simp[Qs]
 | x::a,h=>by
  have d:=h x (aV ..);have h2:=A69 a fun b hb=>h b (aT _ hb)
  simp only[Qs,bK,dU];omega
theorem wrap_u64(a:Nat):Cx .u64 (Int.ofNat a)=Int.ofNat (a%18446744073709551616):=by
 rw[Ns];rfl
theorem Bpx {s:Nat}(hs:s<=64)(hb:a*2^s<9223372036854775808){k:EV->Go.Ev.R}:Agi (bin TT .shl t) (.int .i64 (Int.ofNat a)) (.int .u64 (Int.ofNat s)) k=k (Nk .i64 (a*2^s)):=by
 show k (.int .i64 (Cx .i64 (Int.mul (.ofNat a) (.ofNat (Nat.pow 2 (Ax (Nat.ble s 64) s 64))))))=_;rw[aO hs,Aj];have:Int.mul (.ofNat a) (.ofNat (Nat.pow 2 s))=((a*2^s:Nat):Int):=rfl;rw[this,Cg];rfl
theorem Br5(h:a||| b<9223372036854775808){k:EV->Go.Ev.R}:Agi (bin TT .or t) (.int .i64 (Int.ofNat a)) (.int .i64 (Int.ofNat b)) k=k (Nk .i64 (a||| b)):=by
 show k (.int .i64 (Cx .i64 (.ofNat (Nat.lor a b))))=_;have:Int.ofNat (Nat.lor a b)=((a||| b:Nat):Int):=rfl;rw[this,Cg];rfl
theorem Bkx{l:List Nat}(A:∀b∈l,b<256)(F:l.length<=7):∀(m i:Nat) (h:Ab),l.length-i<m->i<=l.length->Bs h x b off l ->
 J8 K m (Nk .i64 (Qs (l.take i))) x (I l.length) (I i) h=some (Nk .i64 (Qs l),h):=by
 intro m;induction m with
 | zero=>intro i h hm;omega
 | succ m D=>
  intro i h hm E s;simp only[J8,I,Ac,Aa];by_cases j:(i:Int)<l.length
  ·have d:i<l.length:=by omega
   obtain⟨e1,e2⟩:=s.ix d;have hb:=A _ (av d);simp only[j,aB,Aa,Ac9,e1,e2,Ac];have B:(256:Nat)^i=2^(8*i):=by rw[Nat.pow_mul]
   have g:(256:Nat)^i<=256^6:=eO (by decide) (by omega);have g:(256:Nat)^i<=281474976710656:=g;have hmul:l[i]*256^i<=255*281474976710656:=fm (by omega) g;rw[show Cx .i64 (Int.ofNat l[i])=Int.ofNat l[i]from Cg (by show _<=((l[i]:Nat):Int);omega) (by show((l[i]:Nat):Int)<=_;omega)];rw[show(8:Int)*(i:Int)=((8*i:Nat):Int) by omega,Cg];rw[show Cx .u64 ((8*i:Nat):Int)=Int.ofNat (8*i)from by have:=wrap_u64 (8*i);rw[fK (by omega)]at this;exact this];rw[Bpx (by omega) (by rw[<-B];omega)];have C:(l.take i).length=i:=by rw[bH,dW E]
   have o:Qs (l.take i)<2^(8*i):=by
    have:=A69 (l.take i) fun b hb=>A b (bO hb)
    rw[C,B]at this;exact this
   have u:Qs (l.take i)||| l[i]*2^(8*i)=Qs (l.take (i+1)):=by
    rw[List.take_add_one,aH d];show _=Qs (l.take i++[l[i]]);rw[A54,C,Nat.or_comm,fS l[i],<-Nat.two_pow_add_eq_or_of_lt o,B,Nat.add_comm]
   have y:Qs (l.take (i+1))<9223372036854775808:=by
    have:=A69 (l.take (i+1)) fun b hb=>A b (bO hb)
    have h2:(256:Nat)^(l.take (i+1)).length<=256^7:=eO (by decide) (by rw[bH];omega);have G:(256:Nat)^7=72057594037927936:=by decide
    omega
   rw[Br5 (by rw[u];exact y),u];simp only[Adz,I,Ac];rw[Cg];exact D (i+1) h (by omega) (by omega) s
  ·have:i=l.length:=by omega
   subst this;simp only[j,aA,Aa,Ady,cL]
theorem K2{R w:Nat}{l:List Nat}(d:Rd h R q off l)(hb:HB h)(u:1000<K)(m:1<=w)(y:w<=7)(j:w<=l.length)(o:∀b∈l,b<256):
 Ok (Ep K (.ptr R 0) (I w) h) fun v h'=>v=Nk .i64 (Qs (l.take w))/\Rd h' R q (off+w) (l.drop w)/\Au (fun i=>i=R) h h'/\HB h':=by
 simp only[Ep,dr];rw[Acq,aJ ⟨by omega,by omega⟩];simp only[Aa,Aej];refine(Bab (K:=K) d hb m j).Am ?_;rintro v h2 ⟨s,d2,c2,g⟩;rw[s.Hc];have A:(l.take w).length=w:=by rw[bH,dW j]
 have:=Bkx (K:=K) (l:=l.take w) (fun b hb=>o b (bO hb)) (by omega) K 0 h2 (by omega) (cU _) s;rw[show EV.int .i64 0=Nk .i64 (Qs ((l.take w).take 0))from rfl];exact⟨_,_,this,rfl,d2,c2,g⟩
theorem A96{R:Nat}{l:List Nat}(d:Rd h R q off l)(hb:HB h)(h0:0<n)(g:n<=l.length):
 Ok (Lv K (.ptr R 0) (I n) h) fun v h'=>Bs h' v q off (l.take n)/\Rd h' R q (off+n) (l.drop n)/\Au (fun i=>i=R) h h'/\HB h':=by
 simp only[Lv,dr];refine(Bab (K:=K) d hb h0 g).Am ?_;intro v h2 p;exact .ret p
theorem Bo3{R:Nat}(d:Rd h R q off []):Ra K (.ptr R 0) h=some (I 0,h):=by
 obtain⟨s,g,e,f⟩:=d.Mn;simp only[Ra,Aa,Cz g rfl,Ac];have:∀k:EV->Go.Ev.R,Hc s k=k (I 0):=fun k=>by unfold Hc;rw[e];rfl
 rw[this];simp only[I,Ac];rfl
structure Fr where
 kind:Int
 An:Int
 off:Int
 As:Int
 seq:Int
 body:List Nat
def Fr.cells(f:Fr):List EV:=[I f.kind,I f.An,I f.off,I f.As,I f.seq]++Bk f.body
structure Fr.Wf(f:Fr):Prop where
 len:f.body.length=44
 u8:∀b∈f.body,b<256
def frB(f:Fr):Bool:=wi f.kind 1 5&&(wi f.An 0 65535&&(wi f.off 0 65535&&(wi f.As 1 4294967295&&wi f.seq 0 281474976710655)))
theorem Qh(n a b:Int)(h:Ab):Nx K (.int .i64 n) (.int .i64 a) (.int .i64 b) h=some (.bool (wi n a b),h):=by
 simp only[Nx,Ac,Aa];by_cases d:a<=n
 ·simp only[d,aB,Aa,Ac,Acw,wi,bD]
 ·simp only[d,aA,Aa,Acw,wi,ak]
theorem Fr.Az {f:Fr}(w:f.Wf):f.cells.length=49:=by
 unfold Fr.cells;rw[aG,Bg,w.len];rfl
theorem Agu(f:Fr):Ok (J1 K (.agg f.cells) h) fun v h'=>v=.bool (frB f)/\Ext h h':=by
 simp only[J1,Aa];obtain⟨y,j,d,g,_⟩:=nW h (.cells f.cells 247);rw[j];have l0:f.cells[0]? = some (I f.kind):=rfl;have l1:f.cells[1]? = some (I f.An):=rfl;have m:f.cells[2]? = some (I f.off):=rfl;have o:f.cells[3]? = some (I f.As):=rfl;have u:f.cells[4]? = some (I f.seq):=rfl;simp only[Cz g rfl,Aa,l0,I,Qh,Ac];unfold frB;cases wi f.kind 1 5 with
 | false=>simp only[Aa,Sz,My,Jj,G2,Ac];exact .ret ⟨rfl,d⟩
 | true=>
 simp only[Aa,Cz g rfl,l1,I,Qh,Ac,Sz];cases wi f.An 0 65535 with
 | false=>simp only[Aa,My,Jj,G2,Ac];exact .ret ⟨rfl,d⟩
 | true=>
 simp only[Aa,Cz g rfl,m,I,Qh,Ac,My];cases wi f.off 0 65535 with
 | false=>simp only[Aa,Jj,G2,Ac];exact .ret ⟨rfl,d⟩
 | true=>
 simp only[Aa,Cz g rfl,o,I,Qh,Ac,Jj];cases wi f.As 1 4294967295 with
 | false=>simp only[Aa,G2,Ac];exact .ret ⟨rfl,d⟩
 | true=>
 simp only[Aa,Cz g rfl,u,I,Qh,Ac,G2];exact .ret ⟨by simp only[bD],d⟩
def A7v(f:Fr):List Nat:=U2 1 f.kind.toNat++U2 1 1++U2 2 f.An.toNat++U2 2 f.off.toNat++U2 4 f.As.toNat++U2 6 f.seq.toNat++f.body
noncomputable def Aat(f:Fr):List Nat:=A7v f++U2 4 (F0 (A7v f))
theorem Z6(w a:Nat):∀b∈U2 w a,b<256:=fun b hb=>by
 unfold U2 at hb;obtain⟨i,_,rfl⟩:=cY.1 hb;exact Nat.mod_lt _ (by decide)
theorem Auv {f:Fr}(w:f.Wf):(A7v f).length=60:=by
 unfold A7v;simp only[aG,Hq,w.len]
theorem Aw0 {f:Fr}(w:f.Wf):(Aat f).length=64:=by
 unfold Aat;rw[aG,Auv w,Hq]
theorem Bf6 {f:Fr}(w:f.Wf):∀b∈A7v f,b<256:=fun b hb=>by
 unfold A7v at hb;simp only[bP]at hb;rcases hb with(((((hb|hb)|hb)|hb)|hb)|hb)|hb
 ·exact Z6 _ _ b hb
 ·exact Z6 _ _ b hb
 ·exact Z6 _ _ b hb
 ·exact Z6 _ _ b hb
 ·exact Z6 _ _ b hb
 ·exact Z6 _ _ b hb
 ·exact w.u8 b hb
theorem Be1 {f:Fr}(w:f.Wf):∀b∈Aat f,b<256:=fun b hb=>by
 unfold Aat at hb;rcases bP.1 hb with hb|hb
 ·exact Bf6 w b hb
 ·exact Z6 _ _ b hb
theorem Xq {w:Nat}{b:Int}(h0:0<=v)(hb:v<=b)(hw:b<(256^w:Nat)):fits w v=true:=aJ ⟨h0,by omega⟩
theorem Am7{f:Fr}(w:f.Wf)(hr:frB f=true)(hb:HB h)(hK:10000<K):
 Ok (Yb K Uh (.agg f.cells) h) fun v h'=>v=.tuple [.agg (Bk (Aat f)),I 0]/\Ext h h':=by
 have aa:=hr;simp only[frB,bL]at aa;obtain⟨r1,r2,r3,r4,r5⟩:=aa;obtain⟨a1,b1⟩:=N4.1 r1;obtain⟨a2,b2⟩:=N4.1 r2;obtain⟨a3,b3⟩:=N4.1 r3;obtain⟨a4,b4⟩:=N4.1 r4;obtain⟨a5,b5⟩:=N4.1 r5;have l0:f.cells[0]? = some (I f.kind):=rfl;have l1:f.cells[1]? = some (I f.An):=rfl;have l2:f.cells[2]? = some (I f.off):=rfl;have l3:f.cells[3]? = some (I f.As):=rfl;have l4:f.cells[4]? = some (I f.seq):=rfl;have ab:=Fr.Az w;unfold Uh;simp only[Yb,Aa];have x1:Ext h (((h.new (.cells Be 119)).new (.cells f.cells 247)).new (.cells Va 30)):=((Au.new _ _).C8 _).C8 _;have u:(((h.new (.cells Be 119)).new (.cells f.cells 247)).new (.cells Va 30)).get h.next=some (.cells Be 119):=by
  rw[Ay _ (by show h.next<h.next+1+1;omega),Ay _ (aR _)];exact Ad _ _
 have m:(((h.new (.cells Be 119)).new (.cells f.cells 247)).new (.cells Va 30)).get (h.next+1)=some (.cells f.cells 247):=by
  rw[Ay _ (by show h.next+1<h.next+1+1;omega)];exact Ad _ _
 have d:(((h.new (.cells Be 119)).new (.cells f.cells 247)).new (.cells Va 30)).get (h.next+2)=some (.cells Va 30):=Ad _ _;have n1:(((h.new (.cells Be 119)).new (.cells f.cells 247)).new (.cells Va 30)).next=h.next+3:=rfl
 rw[show(h.new (.cells Be 119)).next=h.next+1 from rfl,show((h.new (.cells Be 119)).new (.cells f.cells 247)).next=h.next+2 from rfl,show List.replicate 64 (EV.int .u8 0)=Va from rfl];generalize ((h.new (.cells Be 119)).new (.cells f.cells 247)).new (.cells Va 30)=h1 at x1 u m d n1⊢;have G:=x1.hb hb;rw[Cy m rfl,Ak ab];simp only[Gr];refine(Agu (K:=K) f).Am ?_;rintro _ h2 ⟨rfl,X⟩;rw[hr];simp only[Aa,Anj];have H:=X.hb G;have aj:=x1.trans X;have u:=X.at G u;have m:=X.at G m;have d:=X.at G d;have n2:h.next+3<=h2.next:=by have:=X.next;omega
 have p0:A3k (h2.new (.cells [.Al,.bool false] 350)) h2.next 350 [] false:=⟨.Al,0,Ad _ _,.nil _ _ _ _,fun y=>absurd y (bS _)⟩
 have Y:Ext h2 (h2.new (.cells [.Al,.bool false] 350)):=Au.new _ _;have u:=Y.at H u;have m:=Y.at H m;have d:=Y.at H d;have C:=Y.hb H;have ad:=aj.trans Y;generalize h2.new (.cells [.Al,.bool false] 350)=h3 at p0 Y u m d C ad⊢;generalize hP:h2.next=P at p0 n2⊢
 have up:∀{Z hc:Ab},Ext h Z->Au (fun i=>P<=i) Z hc->Ext h hc:=fun x c=>x.then c fun j hj hl=>by
  have hj:P<=j:=hj;omega
 have A:∀{Z hc:Ab} {i:Nat} {o:By},Au (fun i=>P<=i) Z hc->HB Z->Z.get i=some o->i<P->hc.get i=some o:=fun c hb g hi=>c.at hb g (by omega)
 simp only[Cz m rfl,l0];simp only[Gr];refine(Ln (K:=K) (w:=1) (by omega) p0 C (by simp) (by decide) (by decide) (v:=f.kind) (by omega)).Am ?_;rintro _ h5 ⟨p,c,J⟩;rw[Xq (b:=5) (by omega) b1 (by decide),aQ rfl]at p;have x5:=up ad c;have u:=A c C u (by omega);have m:=A c C m (by omega);have d:=A c C d (by omega);refine(Ln (K:=K) (w:=1) (by omega) p J (by simp[Hq]) (by decide) (by decide) (v:=1) (by omega)).Am ?_;rintro _ h6 ⟨p,c,L⟩;rw[Xq (b:=1) (by omega) (fY _) (by decide),aQ rfl]at p;have x6:=up x5 c;have u:=A c J u (by omega);have m:=A c J m (by omega);have d:=A c J d (by omega);simp only[Aa,Cz m rfl,l1];refine(Ln (K:=K) (w:=2) (by omega) p L (by simp[Hq]) (by decide) (by decide) (v:=f.An) (by omega)).Am ?_;rintro _ h7 ⟨p,c,M⟩;rw[Xq (b:=65535) a2 b2 (by decide),aQ rfl]at p;have x7:=up x6 c;have u:=A c L u (by omega);have m:=A c L m (by omega);have d:=A c L d (by omega);simp only[Aa,Cz m rfl,l2];refine(Ln (K:=K) (w:=2) (by omega) p M (by simp[Hq]) (by decide) (by decide) (v:=f.off) (by omega)).Am ?_;rintro _ h8 ⟨p,c,O⟩;rw[Xq (b:=65535) a3 b3 (by decide),aQ rfl]at p;have x8:=up x7 c;have u:=A c M u (by omega);have m:=A c M m (by omega);have d:=A c M d (by omega);simp only[Aa,Cz m rfl,l3];refine(Ln (K:=K) (w:=4) (by omega) p O (by simp[Hq]) (by decide) (by decide) (v:=f.As) (by omega)).Am ?_;rintro _ h9 ⟨p,c,Q⟩;rw[Xq (b:=4294967295) (by omega) b4 (by decide),aQ rfl]at p;have x9:=up x8 c;have u:=A c O u (by omega);have m:=A c O m (by omega);have d:=A c O d (by omega);simp only[Aa,Cz m rfl,l4];refine(Ln (K:=K) (w:=6) (by omega) p Q (by simp[Hq]) (by decide) (by decide) (v:=f.seq) (by omega)).Am ?_;rintro _ af ⟨p,c,D⟩;rw[Xq (b:=281474976710655) a5 b5 (by decide),aQ rfl]at p;have al:=up x9 c;have u:=A c Q u (by omega);have m:=A c Q m (by omega);have d:=A c Q d (by omega)
 try simp only[Aa]
 rw[show ∀k:EV->R,Nv 44 1 (.ptr (h.next+1) 5) none none none k=k (.slice (h.next+1) 5 44 44 false)from fun k=>rfl];have ao:O8 af 1 44 (.slice (h.next+1) 5 44 44 false)=some (Bk f.body):=by
  show Ye af (h.next+1) 5 44=_;unfold Ye Ave;rw[m];show Mj f.cells 5 44=_;rw[E6 (by rw[ab];decide)];show some (List.take 44 (Bk f.body))=_;rw[bR (by rw[Bg,w.len];decide)]
 refine(Axf (K:=K) (n:=44) p D (by simp[Hq]) rfl (by decide) (by decide) ao w.len).Am ?_;rintro _ cb ⟨p,c,E⟩;have aq:=up al c;have u:=A c D u (by omega);have d:=A c D d (by omega);have ep:([]++U2 1 f.kind.toNat++U2 1 (1:Int).toNat++U2 2 f.An.toNat++U2 2 f.off.toNat++U2 4 f.As.toNat++U2 6 f.seq.toNat++f.body)=A7v f:=by
  unfold A7v;rw[dN];rfl
 have ag:∀b:Bool,(b||!true)=b:=by decide
 rw[ep]at p;simp only[ag]at p;refine(A08 (K:=K) p E (by rw[Auv w];decide)).Am ?_;rintro _ cc ⟨y,q',rfl,ry,F,T,lq⟩;have u:=F.at E u;have d:=F.at E d;simp only[Aa,I,Ac];simp only[aC,aA,Aa,Am1];rw[Cy u rfl,Ak Pv];simp only[Gr];have U:0<(A7v f).length:=by rw[Auv w];decide
 refine(Bqt (K:=K) hK (ry.bs U) T (Bf6 w) U (by rw[Auv w];decide)).Am ?_;rintro v W ⟨q2,S,V,ah,ch⟩;have S:Cc W v q2 5 1 (Aat f).length (Bk (Aat f)):=S;have d:=V.at T d;have B:=Aw0 w;have aw:=S.slice (by rw[B];decide);subst aw;rw[show ∀k:EV->R,A2e 64 (.slice q2 0 (Aat f).length (Aat f).length true) k=k (.ptr q2 0)from fun k=>by rw[B];rfl];rw[Cy (S.block (by rw[B];decide)) rfl,Ak (by rw[Bg,B])];simp only[Gr];refine Ok.st (Bk (Aat f)) d rfl (by show Fl (Bk (Aat f))=64;rw[Bf,Bg,B]) (Bm (by rw[Kw];show 64=(Bk (Aat f)).length;rw[Bg,B])) ?_;have ax:(W.put (h.next+2) (.cells (Bk (Aat f)) 30)).get (h.next+2)=some (.cells (Bk (Aat f)) 30):=Ae _ _ _;rw[Ea ax Azn.1 Azn.2 (by rw[Bg,B])];have xx:Ext h W:=aq.trans (F.trans V);exact .ret ⟨rfl,xx.Ao (.inr (by omega)) (ah _ _ d) _⟩
variable {f:Fr}
theorem Ok.A2i{o:Nat}{l:List EV}{v:EV}{kk:Ab->R}{Q:EV->Ab->Prop}(d:h.get i=some (.cells l t))(hb:HB h)(g:v.plain=true)(m:v.cells = [v])(u:o<l.length)
 (y:∀h',h'.get i=some (.cells (l.set o v) t)->Au (fun j=>j=i) h h'->HB h'->Ok (kk h') Q):Ok (stE 1 (.ptr i o) v h kk) Q:=by
 have lt:=hb _ _ d;exact Ok.st1 d g m u (y _ (Ae _ _ _) ((Au.refl (S:=fun j=>j=i) h).Ao (.inl rfl) lt _) (hb.put lt _))
theorem Ak7:∀(hd Cv new:List EV),Cv.length=new.length->Fm (hd++Cv) hd.length new=some (hd++new)
 | [],Cv,new,h=>by
  have:=Bm (l:=Cv) (vs:=new) h;rw[U6]at this;exact this
 | a::hd,Cv,new,h=>by
  have d:=Ak7 hd Cv new h;show Ax (Nat.beq (hd.length+1) 0) _ (match Fm (hd++Cv) hd.length new with|some x=>some (a::x)|none=>none)=_;rw[show Nat.beq (hd.length+1) 0=false from rfl,Bc,d];rfl
theorem A7p{r:Nat}{t:TypeId}{hd Cv new:List EV}{y:EV}(g:h.get i=some (.cells (hd++Cv) t))(m:lenOf y=some n)(o:0<n)(j:O8 h 1 n y=some new)(u:new.length=n)(A:Cv.length=n):
 builtin TT .copy #[184,184] [.slice i hd.length n r op,y] h=some (I n,h.put i (.cells (hd++new) t)):=by
 have hu:TT.T8 184=some (.slice 5):=by kernel_rfl
 have hs:TT.size 5=some 1:=by kernel_rfl
 have hb:Nat.ble n n=true:=aO (aD _);have h0:Nat.beq n 0=false:=by cases n with|zero=>omega|succ n=>rfl
 have hw:Mc h i hd.length new=some (h.put i (.cells (hd++new) t)):=by
  unfold Mc;rw[g];simp only;rw[Ak7 hd Cv new (by omega)]
 rw[Ara]at j;have d:lenOf (.slice i hd.length n r op)=some n:=rfl;unfold builtin;simp only[hu,hs,d,m,hb,Aj,h0,Bc,j,hw];rfl
theorem Rd.chg{R:Nat}{l:List Nat}{S:Nat->Prop}(d:Rd h R q off l)(hb:HB h)(c:Au S h h')(j:¬S q)(m:¬S R):Rd h' R q off l:=by
 obtain⟨s,g,e,f⟩:=d.Mn;exact⟨⟨s,c.at hb g m,e,fun y=>⟨(f y).1,(f y).2.frame (c.get _ ((f y).2.lt hb) j)⟩⟩,d.ne⟩
def Fr.zero:Fr:=⟨0,0,0,0,0,List.replicate 44 0⟩
theorem Fr.Hj:List.replicate 5 (EV.int .i64 0)++List.replicate 44 (EV.int .u8 0)=Fr.zero.cells:=by kernel_rfl
def Ai0(p:List Nat):Fr:=⟨Qs (p.take 1),Qs (((p.drop 1).drop 1).take 2),Qs ((((p.drop 1).drop 1).drop 2).take 2),Qs (((((p.drop 1).drop 1).drop 2).drop 2).take 4),Qs ((((((p.drop 1).drop 1).drop 2).drop 2).drop 4).take 6),(((((((p.drop 1).drop 1).drop 2).drop 2).drop 4).drop 6).take 44)⟩
noncomputable def Aaf(s:List Nat):Fr × Int:=
 if A8y s=false then(Fr.zero,11)else
 if Qs (((s.take 60).drop 1).take 1)=1/\frB (Ai0 (s.take 60))=true then(Ai0 (s.take 60),0)else(Fr.zero,10)
theorem A4i:TT.size 247=some 49/\TT.agg 247=some true:=⟨by kernel_rfl,by kernel_rfl⟩
theorem A0l(d:p.length=60)(hu:∀b∈p,b<256):(Ai0 p).Wf:=by
 refine⟨?_,fun b hb=>hu b ?_⟩
 ·simp only[Ai0,bH,aU,d];decide
 ·simp only[Ai0]at hb
  exact aE (aE (aE (aE (aE (aE (bO hb))))))
theorem Fr.Gn:Fr.zero.Wf:=⟨by simp[Fr.zero],fun b hb=>by rw[bc hb];decide⟩
theorem Bpo {s:List Nat}(d:s.length=64)(hu:∀b∈s,b<256):(Aaf s).1.Wf:=by
 unfold Aaf;split
 ·exact Fr.Gn
 ·split
  ·exact A0l (by rw[bH,d];decide) fun b hb=>hu b (bO hb)
  ·exact Fr.Gn
theorem Azr{s:List Nat}(hl:s.length=64)(hu:∀b∈s,b<256)(hb:HB h)(hK:10000<K):
 Ok (Aes K Uh (.agg (Bk s)) h) fun v h'=>v=.tuple [.agg (Aaf s).1.cells,I (Aaf s).2]/\Ext h h':=by
 unfold Uh;simp only[Aes,Aa];rw[Fr.Hj];have x1:Ext h (((h.new (.cells Be 119)).new (.cells (Bk s) 30)).new (.cells Fr.zero.cells 247)):=((Au.new _ _).C8 _).C8 _;have g2:(((h.new (.cells Be 119)).new (.cells (Bk s) 30)).new (.cells Fr.zero.cells 247)).get h.next=some (.cells Be 119):=by
  rw[Ay _ (by show h.next<h.next+1+1;omega),Ay _ (aR _)];exact Ad _ _
 have g3:(((h.new (.cells Be 119)).new (.cells (Bk s) 30)).new (.cells Fr.zero.cells 247)).get (h.next+1)=some (.cells (Bk s) 30):=by
  rw[Ay _ (by show h.next+1<h.next+1+1;omega)];exact Ad _ _
 have u:(((h.new (.cells Be 119)).new (.cells (Bk s) 30)).new (.cells Fr.zero.cells 247)).get (h.next+2)=some (.cells Fr.zero.cells 247):=Ad _ _;have n1:(((h.new (.cells Be 119)).new (.cells (Bk s) 30)).new (.cells Fr.zero.cells 247)).next=h.next+3:=rfl
 rw[show(h.new (.cells Be 119)).next=h.next+1 from rfl,show((h.new (.cells Be 119)).new (.cells (Bk s) 30)).next=h.next+2 from rfl];generalize ((h.new (.cells Be 119)).new (.cells (Bk s) 30)).new (.cells Fr.zero.cells 247)=h1 at x1 g2 g3 u n1⊢;have aj:=x1.hb hb;have di:=aj _ _ g2;have zl:=Fr.Az Fr.Gn;have fin:∀(f:Fr) (e:Int) (h5:Ab) (kk:Ab->R),(∀h',kk h'=Ii TT [.c (.ptr (h.next+2) 0) 247,.v (I e)] h')->HB h5->Ext h h5->h5.get (h.next+2)=some (.cells Fr.zero.cells 247)->f.Wf->(f,e)=Aaf s ->
  Ok (stE 49 (.ptr (h.next+2) 0) (.agg f.cells) h5 kk) fun v h'=>v=.tuple [.agg (Aaf s).1.cells,I (Aaf s).2]/\Ext h h':=by
  intro f e h5 kk dj Y x5 g5 wf he;have fl:=Fr.Az wf;refine Ok.st f.cells g5 rfl (by show Fl f.cells=49;rw[Bf,fl]) (Bm (by rw[zl];exact fl.symm)) ?_;have g6:(h5.put (h.next+2) (.cells f.cells 247)).get (h.next+2)=some (.cells f.cells 247):=Ae _ _ _;rw[dj,Ea g6 A4i.1 A4i.2 fl,<-he];exact .ret ⟨rfl,x5.Ao (.inr (by omega)) (Y _ _ g5) _⟩
 simp only[Ce di,Ar,Aa,Cy g2 rfl,Ak Pv];rw[show ∀k:EV->R,Nv 64 1 (.ptr (h.next+1) 0) none none none k=k (.slice (h.next+1) 0 64 64 false)from fun k=>rfl];have bs:Bs h1 (.slice (h.next+1) 0 s.length 64 false) (h.next+1) 0 s:=by
  refine⟨64,false,_,Bk s,rfl,by omega,g3,rfl,by rw[Bg];omega,?_⟩;rw[dE,<-Bg,cL]
 have b7:=Bo0 (K:=K) hK bs.lift (Da aj) hu (by omega) (by omega);rw[hl]at b7;refine Ok.bE b7 (fun _ _ p=>p.1) ?_;rintro v h2 h3 ⟨_,_,hv⟩ sm x3;have a5:=x3.hb aj;have u:=x3.at aj u;have b8:=x1.trans x3;rcases hv with⟨ho,rfl⟩|⟨ho,y,q',rfl,ry,lq⟩
 ·simp only[Aa,I,Ac]
  simp only[show ¬((11:Int)=0) by decide,aF,aB,Aa];rw[Aw (l:=Fr.zero.cells) rfl];exact fin Fr.zero 11 h3 _ (fun _=>rfl) a5 b8 u Fr.Gn (by unfold Aaf;rw[aQ ho])
 ·have dt:¬A8y s=false:=by rw[ho];simp
  simp only[Aa,I,Ac];simp only[aC,aA,Aa,Ank];have du:s.length-4=60:=by omega
  rw[du]at ry;have ca:(s.take 60).length=60:=by rw[bH,hl];decide
  have J:∀b∈s.take 60,b<256:=fun b hb=>hu b (bO hb)
  have cb:Cc h3 y q' 5 1 (s.take 60).length (Bk (s.take 60)):=ry.frame fun _=>sm.get _
  have Z:Aaf s=if Qs (((s.take 60).drop 1).take 1)=1/\frB (Ai0 (s.take 60))=true then(Ai0 (s.take 60),0)else(Fr.zero,10):=by unfold Aaf;rw[aM dt]
  have F:=A0l ca J;rw[Z]at fin⊢;unfold Ai0 at fin Z F⊢;generalize s.take 60=p at cb ca J fin Z F⊢;refine(Ae6 (K:=K) (cb.bs (by omega)) a5 (by omega) (by omega)).Am ?_;rintro _ h5 ⟨W,q,rfl,d0,x5,Y,fc⟩;have u:=x5.at a5 u;have dw:=b8.trans x5;have fe:W<h5.next:=by obtain⟨_,g,_⟩:=d0.Mn;exact Y _ _ g
  have ff:h.next+2<W:=by have:=d0.ne;have:=x3.next;omega
  have up:∀{L Q:Ab},Ext h L->Au (fun i=>i=W) L Q->Ext h Q:=fun x c=>x.then c fun j hj dx=>by
   have hj:j=W:=hj;omega
  have m:∀{L Q:Ab} {i:Nat} {o:By},Au (fun i=>i=W) L Q->HB L->L.get i=some o->i≠W->Q.get i=some o:=fun c hb g hi=>c.at hb g hi
  refine(K2 (K:=K) (w:=1) d0 Y (by omega) (by decide) (by decide) (by omega) J).Am ?_;rintro _ h6 ⟨rfl,d1,c6,a6⟩;have u:=m c6 Y u (by omega);have x6:=up dw c6;rw[Aw (l:=(⟨Qs (p.take 1),0,0,0,0,List.replicate 44 0⟩:Fr).cells) rfl]
  try simp only[Aa]
  rw[Fr.Hj];have x7:Ext h6 (h6.new (.cells Fr.zero.cells 247)):=Au.new _ _;have A:(h6.new (.cells Fr.zero.cells 247)).get h6.next=some (.cells Fr.zero.cells 247):=Ad _ _
  have n7:(h6.new (.cells Fr.zero.cells 247)).next=h6.next+1:=rfl
  have u:=x7.at a6 u;have ao:=x7.hb a6;have d1:=d1.ext a6 x7;have cf:=x6.trans x7;have hF:W<h6.next:=by have:=c6.next;omega
  generalize h6.new (.cells Fr.zero.cells 247)=h7 at x7 A n7 u ao d1 cf⊢;generalize h6.next=C at A n7 hF⊢
  refine Ok.st (⟨Qs (p.take 1),0,0,0,0,List.replicate 44 0⟩:Fr).cells A rfl (by kernel_rfl) (Bm (by kernel_rfl)) ?_;have lF:=ao _ _ A;have A:(h7.put C (.cells (⟨Qs (p.take 1),0,0,0,0,List.replicate 44 0⟩:Fr).cells 247)).get C=some (.cells (⟨Qs (p.take 1),0,0,0,0,List.replicate 44 0⟩:Fr).cells 247):=Ae _ _ _;have u:(h7.put C (.cells (⟨Qs (p.take 1),0,0,0,0,List.replicate 44 0⟩:Fr).cells 247)).get (h.next+2)=some (.cells Fr.zero.cells 247):=by rw[Af _];exact u
  have d1:Rd (h7.put C (.cells (⟨Qs (p.take 1),0,0,0,0,List.replicate 44 0⟩:Fr).cells 247)) W q (0+1) (p.drop 1):=by
   have c:Au (fun i=>i=C) h7 (h7.put C (.cells (⟨Qs (p.take 1),0,0,0,0,List.replicate 44 0⟩:Fr).cells 247)):=(Au.refl (S:=fun i=>i=C) h7).Ao (.inl rfl) lF _;exact d1.chg ao c (by have:=d1.ne;intro y;omega) (by intro y;omega)
  have x8:Ext h (h7.put C (.cells (⟨Qs (p.take 1),0,0,0,0,List.replicate 44 0⟩:Fr).cells 247)):=cf.Ao (.inr (by omega)) lF _;have aq:=ao.put lF (.cells (⟨Qs (p.take 1),0,0,0,0,List.replicate 44 0⟩:Fr).cells 247);generalize h7.put C (.cells (⟨Qs (p.take 1),0,0,0,0,List.replicate 44 0⟩:Fr).cells 247)=h8 at A u d1 x8 aq⊢;refine(K2 (K:=K) (w:=1) d1 aq (by omega) (by decide) (by decide) (by simp only[aU];omega) (fun b hb=>J b (by revert hb;exact fun y=>aE y))).Am ?_;rintro _ h9 ⟨rfl,d2,c9,a7⟩;have u:=m c9 aq u (by omega);have A:=m c9 aq A (by omega);have x9:=up x8 c9;refine(K2 (K:=K) (w:=2) d2 a7 (by omega) (by decide) (by decide) (by simp only[aU];omega) (fun b hb=>J b (aE (aE hb)))).Am ?_;rintro _ fj ⟨rfl,d3,a8,aa⟩;have u:=m a8 a7 u (by omega);have A:=m a8 a7 A (by omega);have dD:=up x9 a8;refine(K2 (K:=K) (w:=2) d3 aa (by omega) (by decide) (by decide) (by simp only[aU];omega) (fun b hb=>J b (aE (aE (aE hb))))).Am ?_;rintro _ fk ⟨rfl,d4,bb,ab⟩;have u:=m bb aa u (by omega);have A:=m bb aa A (by omega);have dT:=up dD bb;refine(K2 (K:=K) (w:=4) d4 ab (by omega) (by decide) (by decide) (by simp only[aU];omega) (fun b hb=>J b (aE (aE (aE (aE hb)))))).Am ?_;rintro _ fp ⟨rfl,d5,bf,ad⟩;have u:=m bf ab u (by omega);have A:=m bf ab A (by omega);have ea:=up dT bf;refine(K2 (K:=K) (w:=6) d5 ad (by omega) (by decide) (by decide) (by simp only[aU];omega) (fun b hb=>J b (aE (aE (aE (aE (aE hb))))))).Am ?_;rintro _ fq ⟨rfl,d6,bj,ae⟩;have u:=m bj ad u (by omega);have A:=m bj ad A (by omega);have ch:=up ea bj;have af:∀{L Q:Ab},Ext h L->Au (fun i=>i=C) L Q->Ext h Q:=fun x c=>x.then c fun j hj dx=>by
   have hj:j=C:=hj;omega
  have D:∀{L Q:Ab} {i:Nat} {o:By},Au (fun i=>i=C) L Q->HB L->L.get i=some o->i≠C->Q.get i=some o:=fun c hb g hi=>c.at hb g hi
  have E:∀{L Q:Ab} {off:Nat} {l:List Nat},Au (fun i=>i=C) L Q->HB L->Rd L W q off l->Rd Q W q off l:=fun c hb d=>d.chg hb c (by have:=d.ne;intro y;omega) (by intro y;omega)
  have hz:(⟨Qs (p.take 1),0,0,0,0,List.replicate 44 0⟩:Fr).cells.length=49:=by kernel_rfl
  refine Ok.A2i A ae rfl rfl (by rw[hz];decide) ?_;intro fs A bn ag;have u:=D bn ae u (by omega);have d6:=E bn ae d6;have eb:=af ch bn
  try simp only[Aa]
  refine Ok.A2i A ag rfl rfl (by rw[bV,hz];decide) ?_;intro ft A bo ah;have u:=D bo ag u (by omega);have d6:=E bo ag d6;have cw:=af eb bo
  try simp only[Aa]
  refine Ok.A2i A ah rfl rfl (by rw[bV,bV,hz];decide) ?_;intro fu A bp ai;have u:=D bp ah u (by omega);have d6:=E bp ah d6;have ec:=af cw bp
  try simp only[Aa]
  refine Ok.A2i A ai rfl rfl (by rw[bV,bV,bV,hz];decide) ?_;intro cx A bt T;have u:=D bt ai u (by omega);have d6:=E bt ai d6;have cA:=af ec bt
  try simp only[Aa]
  have A:cx.get C=some (.cells ([Nk .i64 (Qs (p.take 1)),Nk .i64 (Qs (((p.drop 1).drop 1).take 2)),Nk .i64 (Qs ((((p.drop 1).drop 1).drop 2).take 2)),Nk .i64 (Qs (((((p.drop 1).drop 1).drop 2).drop 2).take 4)),Nk .i64 (Qs ((((((p.drop 1).drop 1).drop 2).drop 2).drop 4).take 6))]++Bk (List.replicate 44 0)) 247):=A;rw[show ∀k:EV->R,Nv 44 1 (.ptr C 5) none none none k=k (.slice C 5 44 44 false)from fun k=>rfl];have B:((((((p.drop 1).drop 1).drop 2).drop 2).drop 4).drop 6).length=44:=by simp only[aU];omega
  have dl:Rd cx.lift W q (0+1+1+2+2+4+6) ((((((p.drop 1).drop 1).drop 2).drop 2).drop 4).drop 6):=d6.chg T (S:=fun _=>False) ⟨fun i _ _=>Br _ _,aD _,fun w _ w2 _=>w2,fun y=>Da y⟩ id id;refine Ok.bC (S:=fun i=>i=W) (A96 (K:=K) (n:=44) dl (Da T) (by decide) (by omega)) (fun _ _ p=>p.2.2.1) ?_;rintro bu ew M s' ⟨X,d7,_,bw⟩ U bx bz;have V:=U.hb bw;have X:Bs M bu q (0+1+1+2+2+4+6) (((((((p.drop 1).drop 1).drop 2).drop 2).drop 4).drop 6).take 44):=X.frame (U.get _);have d7:Rd M W q (0+1+1+2+2+4+6+44) (((((((p.drop 1).drop 1).drop 2).drop 2).drop 4).drop 6).drop 44):=by
   obtain⟨s0,g,e,f⟩:=d7.Mn;exact⟨⟨s0,by rw[U.get];exact g,e,fun y=>⟨(f y).1,(f y).2.frame (U.get _)⟩⟩,d7.ne⟩
  have u:=m bx T u (by omega);have A:=m bx T A (by omega);have ed:=up cA bx;generalize fv:(((((p.drop 1).drop 1).drop 2).drop 2).drop 4).drop 6=body at X d7 B fin F⊢;generalize hq:Qs ((p.drop 1).take 1)=au at fin⊢;generalize Qs (p.take 1)=na at A fin F⊢;generalize Qs (((p.drop 1).drop 1).take 2)=nz at A fin F⊢;generalize Qs ((((p.drop 1).drop 1).drop 2).take 2)=no at A fin F⊢;generalize Qs (((((p.drop 1).drop 1).drop 2).drop 2).take 4)=ne at A fin F⊢;generalize Qs ((((((p.drop 1).drop 1).drop 2).drop 2).drop 4).take 6)=ns at A fin F⊢;have ee:body.take 44=body:=bR (by omega);rw[ee]at X fin F⊢;have ef:body.drop 44 = []:=List.drop_eq_nil_of_le (by omega);rw[ef]at d7;have hlen:lenOf bu=some 44:=by have:=X.len;rw[B]at this;exact this
  have cB:O8 M.lift 1 44 bu=some (Bk body):=by have:=X.lift.cells;rw[B]at this;exact this
  have eg:=A7p (h:=M.lift) (i:=C) (n:=44) (r:=44) (op:=false) (t:=247) (hd:=[Nk .i64 na,Nk .i64 nz,Nk .i64 no,Nk .i64 ne,Nk .i64 ns]) (Cv:=Bk (List.replicate 44 0)) (by rw[Br];exact A) hlen (by decide) cB (by rw[Bg,B]) (by rw[Bg,bT]);have cG:=V _ _ A;refine Ok.Bkb (S:=fun i=>i=C) (by rcases bz with rfl|⟨w,rfl,_⟩<;>kernel_rfl) (by rcases bz with rfl|⟨w,rfl,_⟩<;>kernel_rfl) (fun w=>by rcases bz with rfl|⟨w,rfl,_⟩<;>kernel_rfl) (P:=fun v h'=>h'=M.lift.put C (.cells ([Nk .i64 na,Nk .i64 nz,Nk .i64 no,Nk .i64 ne,Nk .i64 ns]++Bk body) 247)) ⟨_,_,eg,rfl⟩ (fun _ _ p=>by rw[p];exact(Au.refl (S:=fun i=>i=C) M.lift).Ao (.inl rfl) (show C<M.lift.next from cG) _) ?_;rintro fw ey b5 s2 rfl c0 aw _;have H:=aw.hb V;have A:b5.get C=some (.cells ([Nk .i64 na,Nk .i64 nz,Nk .i64 no,Nk .i64 ne,Nk .i64 ns]++Bk body) 247):=by rw[c0.get];exact Ae _ _ _
  have u:=D aw V u (by omega);have d7:=E aw V d7;have c7:=af ed aw;simp only[Ac];have cl:([Nk .i64 na,Nk .i64 nz,Nk .i64 no,Nk .i64 ne,Nk .i64 ns]++Bk body).length=49:=by rw[aG,Bg,B];rfl
  have bad:∀O:Ab,Ext b5 O->¬(au=1/\frB ⟨na,nz,no,ne,ns,body⟩=true)->∀w:EV,Ok (Vn K (.ptr (h.next+2) 0) (.ptr C 0) (.bool true) w O) _:=fun O G ei w=>by
   simp only[Vn,Aa];rw[Aw (l:=Fr.zero.cells) rfl];exact fin Fr.zero 10 O _ (fun _=>rfl) (G.hb H) (c7.trans G) (G.at H u) Fr.Gn (by rw[aM ei])
  by_cases hv:au=1
  ·rw[show decide (¬Int.ofNat au=1)=false from aK (by rw[hv];exact fun y=>y rfl)]
   simp only[Aa];rw[Cy A rfl,Ak cl];simp only[Gr];refine(Agu (K:=K) ⟨na,nz,no,ne,ns,body⟩).Am ?_;rintro _ O ⟨rfl,G⟩;generalize frB ⟨na,nz,no,ne,ns,body⟩=fb at fin bad⊢;cases fb with
   | false=>
    simp only[Aa,Vm,Ac];exact bad O G (by simp) _
   | true=>
    have c8:=G.hb H;simp only[Aa,Vm,Ac,Bo3 (d7.ext H G),I];simp only[Vn,Aa,aC,aA,Anl];rw[Cy (G.at H A) rfl,Ak cl];simp only[Gr];have r:=fin ⟨na,nz,no,ne,ns,body⟩ 0 O (fun z=>Ii TT [RV.c (EV.ptr (h.next+2) 0) 247,RV.v (EV.int IntKind.i64 0)] z) (fun _=>rfl) c8 (c7.trans G) (G.at H u) F (by rw[aQ ⟨hv,rfl⟩]);simp only[eq_self]at r;exact r
  ·rw[show decide (¬Int.ofNat au=1)=true from aJ fun y=>hv (Int.ofNat.inj y)]
   simp only[Aa,Vm,Ac];exact bad b5 (Au.refl _) (fun y=>hv y.1) _
noncomputable def atF(s:List Nat)(An off:Int):Fr × Int:=
 if ¬(Aaf s).2=0 then(Fr.zero,(Aaf s).2)else if ¬(Aaf s).1.An=An\/¬(Aaf s).1.off=off then(Fr.zero,12)else((Aaf s).1,0)
theorem Ax8{s:List Nat}(H:s.length=64)(hu:∀b∈s,b<256)(hb:HB h)(X:10000<K)(An off:Int):
 Ok (Apt K Uh (.agg (Bk s)) (I An) (I off) h) fun v h'=>v=.tuple [.agg (atF s An off).1.cells,I (atF s An off).2]/\(atF s An off).1.Wf/\Ext h h':=by
 unfold Uh;simp only[Apt,Aa];rw[Fr.Hj];have J:Ext h (((h.new (.cells Be 119)).new (.cells (Bk s) 30)).new (.cells Fr.zero.cells 247)):=((Au.new _ _).C8 _).C8 _;have Q:(((h.new (.cells Be 119)).new (.cells (Bk s) 30)).new (.cells Fr.zero.cells 247)).get h.next=some (.cells Be 119):=by
  rw[Ay _ (by show h.next<h.next+1+1;omega),Ay _ (aR _)];exact Ad _ _
 have S:(((h.new (.cells Be 119)).new (.cells (Bk s) 30)).new (.cells Fr.zero.cells 247)).get (h.next+1)=some (.cells (Bk s) 30):=by
  rw[Ay _ (by show h.next+1<h.next+1+1;omega)];exact Ad _ _
 have d:(((h.new (.cells Be 119)).new (.cells (Bk s) 30)).new (.cells Fr.zero.cells 247)).get (h.next+2)=some (.cells Fr.zero.cells 247):=Ad _ _;have Y:(((h.new (.cells Be 119)).new (.cells (Bk s) 30)).new (.cells Fr.zero.cells 247)).next=h.next+3:=rfl
 rw[show(h.new (.cells Be 119)).next=h.next+1 from rfl,show((h.new (.cells Be 119)).new (.cells (Bk s) 30)).next=h.next+2 from rfl];generalize ((h.new (.cells Be 119)).new (.cells (Bk s) 30)).new (.cells Fr.zero.cells 247)=h1 at J Q S d Y⊢;have m:=J.hb hb;have zl:=Fr.Az Fr.Gn;have o:=Bpo H hu;have fin:∀(f:Fr) (e:Int) (y:Ab) (kk:Ab->R),(∀h',kk h'=Ii TT [.c (.ptr (h.next+2) 0) 247,.v (I e)] h')->HB y->Ext h y->y.get (h.next+2)=some (.cells Fr.zero.cells 247)->f.Wf->(f,e)=atF s An off ->
  Ok (stE 49 (.ptr (h.next+2) 0) (.agg f.cells) y kk) fun v h'=>v=.tuple [.agg (atF s An off).1.cells,I (atF s An off).2]/\(atF s An off).1.Wf/\Ext h h':=by
  intro f e y kk L M Z T wf he;have fl:=Fr.Az wf;refine Ok.st f.cells T rfl (by show Fl f.cells=49;rw[Bf,fl]) (Bm (by rw[zl];exact fl.symm)) ?_;have g6:(y.put (h.next+2) (.cells f.cells 247)).get (h.next+2)=some (.cells f.cells 247):=Ae _ _ _;rw[L,Ea g6 A4i.1 A4i.2 fl,<-he];exact .ret ⟨rfl,wf,Z.Ao (.inr (by omega)) (M _ _ T) _⟩
 have u64:(Bk s).length=64:=by rw[Bg,H]
 rw[Cy Q rfl,Ak Pv];simp only[Gr];rw[Cy S rfl,Ak u64];simp only[Gr];refine(Azr (K:=K) H hu m X).Am ?_;rintro _ h2 ⟨rfl,E⟩;have A:=E.hb m;have d:=E.at m d;have O:=J.trans E;simp only[Aa];have F:Ext h2 (h2.new (.cells Fr.zero.cells 247)):=Au.new _ _;have j:(h2.new (.cells Fr.zero.cells 247)).get h2.next=some (.cells Fr.zero.cells 247):=Ad _ _
 have d:=F.at A d;have u:=F.hb A;have B:=O.trans F;have n2:h.next+3<=h2.next:=by have:=E.next;omega
 generalize h2.new (.cells Fr.zero.cells 247)=G at F j d u B⊢;generalize h2.next=C at j n2⊢
 have dl:=Fr.Az o;refine Ok.st (Aaf s).1.cells j rfl (by show Fl (Aaf s).1.cells=49;rw[Bf,dl]) (Bm (by rw[zl];exact dl.symm)) ?_;have U:=u _ _ j;have j:(G.put C (.cells (Aaf s).1.cells 247)).get C=some (.cells (Aaf s).1.cells 247):=Ae _ _ _;have d:(G.put C (.cells (Aaf s).1.cells 247)).get (h.next+2)=some (.cells Fr.zero.cells 247):=by rw[Af _];exact d
 have D:Ext h (G.put C (.cells (Aaf s).1.cells 247)):=B.Ao (.inr (by omega)) U _;have g:=u.put U (.cells (Aaf s).1.cells 247);have e0:EV.cells (EV.agg (Aaf s).1.cells)=(Aaf s).1.cells:=rfl;generalize G.put C (.cells (Aaf s).1.cells 247)=h4 at j d D g⊢;unfold atF at fin⊢;generalize (Aaf s).2=e at fin⊢;generalize (Aaf s).1=f at fin o dl j⊢;simp only[I,Ac];by_cases he:e=0
 ·subst he
  simp only[aC,aA,Aa,Azh,Cz j rfl,aY]at fin⊢;have l1:f.cells[1]? = some (I f.An):=rfl;have l2:f.cells[2]? = some (I f.off):=rfl;rw[l1];simp only[Gr,I,Ac];by_cases V:f.An=An
  ·simp only[V,aC,aA,Aa,Cz j rfl,false_or]at fin⊢
   rw[l2];simp only[Gr,I,Ac];by_cases W:f.off=off
   ·simp only[W,aC,aA,Aa,Ah8,aY,Ayu]at fin⊢
    rw[Cy j rfl,Ak dl];exact fin f 0 h4 _ (fun _=>rfl) g D d o rfl
   ·simp only[W,aF,aB,Aa,Ah8,bI]at fin⊢
    rw[Aw (l:=Fr.zero.cells) rfl];exact fin Fr.zero 12 h4 _ (fun _=>rfl) g D d Fr.Gn rfl
  ·simp only[V,aF,aB,Aa,true_or,bI,Ah8]at fin⊢
   rw[Aw (l:=Fr.zero.cells) rfl];exact fin Fr.zero 12 h4 _ (fun _=>rfl) g D d Fr.Gn rfl
 ·simp only[he,aF,aB,Aa,bI]at fin⊢
  rw[Aw (l:=Fr.zero.cells) rfl];exact fin Fr.zero e h4 _ (fun _=>rfl) g D d Fr.Gn rfl
structure En where
 kind:Int
 first:Int
 count:Int
 block:Int
 many:Int
 Bt:Int
 bytes:List Nat
def En.cells(e:En):List EV:=[I e.kind,I e.first,I e.count,I e.block,I e.many,I e.Bt]++Bk e.bytes
structure En.Wf(e:En):Prop where
 len:e.bytes.length=32
 u8:∀b∈e.bytes,b<256
theorem En.Az {e:En}(w:e.Wf):e.cells.length=38:=by
 unfold En.cells;rw[aG,Bg,w.len];rfl
theorem Bko(a b:Nat):Agv (Nk .u8 a) (Nk .u8 b)=some (decide (a=b)):=by
 show Ax (Nat.beq (O2 .u8) (O2 .u8)) (some (eqB (Int.ofNat a) (Int.ofNat b))) none=_;rw[cI,Aj,Ajz];exact congrArg some (eS.2 ⟨Int.ofNat.inj,congrArg _⟩)
theorem Axn:∀(a b:List Nat),a.length=b.length->Ey (Bk a) (Bk b)=some (decide (a=b))
 | [],[],_=>rfl
 | x::a,y::b,h=>by
  have g:=Axn a b (by simpa using h);show(match Agv (Nk .u8 x) (Nk .u8 y)with|some true=>Ey (Bk a) (Bk b)|some false=>(match Ey (Bk a) (Bk b)with|some _=>some false|none=>none)|none=>none)=_;rw[Bko,g];by_cases d:x=y
  ·rw[aJ d]
   subst d;simp
  ·rw[aK d]
   simp[d]
theorem Ax4:∀(a:List Nat),shaped (List.replicate a.length 0) (Bk a)=true
 | []=>rfl
 | x::a=>by
  show Ax (Nat.beq 0 0) (shaped (List.replicate a.length 0) (Bk a)) false=true;rw[Ax4 a];rfl
theorem Bi3(d:TT.eqs t=some (List.replicate n 0)){a b:List Nat}(g:a.length=n)(hb:b.length=n)(k:EV->R):Ko Aj7 (bin TT .eql t) (.agg (Bk a)) (.agg (Bk b)) k=k (.bool (decide (a=b))):=by
 have e:bin TT .eql t (.agg (Bk a)) (.agg (Bk b))=some (.bool (decide (a=b))):=by
  show(match At4 TT t (.agg (Bk a)) (.agg (Bk b))with|some b=>some (EV.bool b)|none=>none)=_;have:At4 TT t (.agg (Bk a)) (.agg (Bk b))=some (decide (a=b)):=by
   show(match TT.eqs t with|some sh=>Ax (shaped sh (Bk a)) (Ey (Bk a) (Bk b)) none|none=>none)=_;rw[d];simp only;rw[show List.replicate n 0=List.replicate a.length 0 by rw[g],Ax4,Aj,Axn a b (by omega)]
  rw[this]
 show oB k (bin TT .eql t (.agg (Bk a)) (.agg (Bk b)))=_;rw[e];rfl
theorem Bg4(d:TT.eqs t=some (List.replicate n 0)){a b:List Nat}(g:a.length=n)(hb:b.length=n)(k:EV->R):Ko Aoa (bin TT .neq t) (.agg (Bk a)) (.agg (Bk b)) k=k (.bool (decide (¬a=b))):=by
 have e:bin TT .neq t (.agg (Bk a)) (.agg (Bk b))=some (.bool (decide (¬a=b))):=by
  show(match At4 TT t (.agg (Bk a)) (.agg (Bk b))with|some b=>some (EV.bool (Ax b false true))|none=>none)=_;have:At4 TT t (.agg (Bk a)) (.agg (Bk b))=some (decide (a=b)):=by
   show(match TT.eqs t with|some sh=>Ax (shaped sh (Bk a)) (Ey (Bk a) (Bk b)) none|none=>none)=_;rw[d];simp only;rw[show List.replicate n 0=List.replicate a.length 0 by rw[g],Ax4,Aj,Axn a b (by omega)]
  rw[this];by_cases h:a=b
  ·simp[h,Ax]
  ·simp[h,Ax]
 show oB k (bin TT .neq t (.agg (Bk a)) (.agg (Bk b)))=_;rw[e];rfl
theorem Btx:TT.eqs 85=some (List.replicate 32 0):=by kernel_rfl
theorem Bta:TT.eqs 245=some (List.replicate 44 0):=by kernel_rfl
theorem Qi(n a b:Int)(h:Ab):Pg K (.int .i64 n) (.int .i64 a) (.int .i64 b) h=some (.bool (wi n a b),h):=by
 simp only[Pg,Ac,Aa];by_cases d:a<=n
 ·simp only[d,aB,Aa,Ac,Aco,wi,bD]
 ·simp only[d,aA,Aa,Aco,wi,ak]
def D4:List Nat:=List.replicate 32 0
def Az2(e:En):Bool:=
 if e.kind=1 then wi e.count 1 4&&decide (e.many=0)else
 if e.kind=2 then(decide (e.count=1)&&wi e.many 1 (256-e.block))&&decide (e.bytes=D4)else
 if e.kind=3 then decide (e.count=1)&&decide (e.many=0)else false
theorem F3:List.replicate 32 (EV.int .u8 0)=Bk D4:=by kernel_rfl
theorem Azm{e:En}(w:e.Wf)(j:wi e.block 0 255=true):Ok (Pr K (.agg e.cells) h) fun v h'=>v=.bool (Az2 e)/\Ext h h':=by
 obtain⟨b0,b1⟩:=N4.1 j;simp only[Pr,Aa];obtain⟨E,B,d,g,_⟩:=nW h (.cells e.cells 203);rw[B];have l0:e.cells[0]? = some (I e.kind):=rfl;have m:e.cells[2]? = some (I e.count):=rfl;have C:e.cells[3]? = some (I e.block):=rfl;have o:e.cells[4]? = some (I e.many):=rfl;have D:Mj e.cells 6 32=some (Bk e.bytes):=by
  rw[E6 (by rw[En.Az w];decide)];show some (List.take 32 (Bk e.bytes))=_;rw[bR (by rw[Bg,w.len];decide)]
 simp only[Cz g rfl,Aa,l0,I,Ac];unfold Az2;by_cases u:e.kind=1
 ·simp only[u,aB,Aa,Cz g rfl,m,I,Qi,Ac,bI]
  cases wi e.count 1 4 with
  | false=>simp only[Aa,Qy,Ac];exact .ret ⟨rfl,d⟩
  | true=>
   simp only[Aa,Cz g rfl,o,I,Ac,Qy,bD];exact .ret ⟨rfl,d⟩
 ·simp only[u,aA,Aa,aY,Ac]
  by_cases y:e.kind=2
  ·simp only[y,aB,Aa,Cz g rfl,m,I,Ac,bI]
   by_cases c1:e.count=1
   ·simp only[c1,aB,Aa,Cz g rfl,o,C,I,Ac,bD]
    rw[Cg,Qi];simp only[Aa,Q5];cases wi e.many 1 (256-e.block)with
    | false=>simp only[Aa,Ma,Ac,ak];exact .ret ⟨rfl,d⟩
    | true=>
     simp only[Aa,Ac,Cy g rfl,D];rw[Aw (l:=Bk D4) (by rw[F3];rfl),Bi3 Btx w.len (by rfl)];simp only[Ma,Aa,bD];exact .ret ⟨rfl,d⟩
   ·simp only[c1,aA,Aa,Ac,Q5,Ma,ak]
    exact .ret ⟨rfl,d⟩
  ·simp only[y,aA,Aa,aY,Ac]
   by_cases A:e.kind=3
   ·simp only[A,aB,Aa,Cz g rfl,m,I,Ac,bI]
    by_cases c1:e.count=1
    ·simp only[c1,aB,Aa,Cz g rfl,o,I,Ac,Qw,bD]
     exact .ret ⟨rfl,d⟩
    ·simp only[c1,aA,Aa,Ac,Qw,ak]
     exact .ret ⟨rfl,d⟩
   ·simp only[A,aA,Aa,aY,Zr]
    exact .ret ⟨rfl,d⟩
def erB(e:En):Bool:=wi e.first 0 281474976710655&&(wi e.block 0 255&&(wi e.Bt 0 65535&&Az2 e))
theorem A0x{e:En}(w:e.Wf):Ok (Q9 K (.agg e.cells) h) fun v h'=>v=.bool (erB e)/\Ext h h':=by
 simp only[Q9,Aa];obtain⟨A,m,d,g,_⟩:=nW h (.cells e.cells 203);rw[m];have l1:e.cells[1]? = some (I e.first):=rfl;have o:e.cells[3]? = some (I e.block):=rfl;have u:e.cells[5]? = some (I e.Bt):=rfl;simp only[Cz g rfl,Aa,l1,I,Qi,Ac];unfold erB;cases wi e.first 0 281474976710655 with
 | false=>simp only[Aa,Ac,Sw,Nw,Jo];exact .ret ⟨rfl,d⟩
 | true=>
 simp only[Aa,Ac,Cz g rfl,o,I,Qi,Sw,bD];cases j:wi e.block 0 255 with
 | false=>simp only[Aa,Ac,Nw,Jo];exact .ret ⟨rfl,d⟩
 | true=>
 simp only[Aa,Ac,Cz g rfl,u,I,Qi,Nw,bD];cases wi e.Bt 0 65535 with
 | false=>simp only[Aa,Ac,Jo];exact .ret ⟨rfl,d⟩
 | true=>
 simp only[Aa,Ac,bD];rw[Cy g rfl,Ak (En.Az w)];simp only[Gr];refine(Azm (K:=K) w j).Am ?_;rintro _ h2 ⟨rfl,y⟩;simp only[Jo,Aa];exact .ret ⟨rfl,d.trans y⟩
variable {e:En}
def Y8(e:En):List Nat:=U2 6 e.first.toNat++U2 1 e.count.toNat++U2 1 e.block.toNat++U2 2 e.many.toNat++U2 2 e.Bt.toNat++e.bytes
def Vt:List Nat:=List.replicate 44 0
theorem Atb:List.replicate 44 (EV.int .u8 0)=Bk Vt:=by kernel_rfl
def D5(e:En):List Nat × Int:=if erB e=true then(Y8 e,0)else(Vt,10)
theorem A4s(w:e.Wf):(Y8 e).length=44:=by
 unfold Y8;simp only[aG,Hq,w.len]
theorem Bkd(w:e.Wf):∀b∈Y8 e,b<256:=fun b hb=>by
 unfold Y8 at hb;simp only[bP]at hb;rcases hb with((((hb|hb)|hb)|hb)|hb)|hb
 ·exact Z6 _ _ b hb
 ·exact Z6 _ _ b hb
 ·exact Z6 _ _ b hb
 ·exact Z6 _ _ b hb
 ·exact Z6 _ _ b hb
 ·exact w.u8 b hb
theorem Akx(w:e.Wf):(D5 e).1.length=44:=by
 unfold D5;split
 ·exact A4s w
 ·rfl
theorem A9h(w:e.Wf):∀b∈(D5 e).1,b<256:=by
 unfold D5;split
 ·exact Bkd w
 ·intro b hb;rw[bc hb];decide
theorem A4e:TT.size 245=some 44/\TT.agg 245=some true:=⟨by kernel_rfl,by kernel_rfl⟩
theorem Bd6(g:erB e=true):(0<=e.first/\e.first<=281474976710655)/\(0<=e.block/\e.block<=255)/\(0<=e.Bt/\e.Bt<=65535)/\(1<=e.count/\e.count<=4)/\(0<=e.many/\e.many<=256)/\(1<=e.kind/\e.kind<=3):=by
 unfold erB at g;simp only[bL]at g;obtain⟨j,m,o,d⟩:=g;have a:=N4.1 j;have b:=N4.1 m;have c:=N4.1 o;refine⟨a,b,c,?_⟩;unfold Az2 at d;split at d
 ·simp only[bL,bM]at d
  have:=N4.1 d.1;omega
 ·split at d
  ·simp only[bL,bM]at d
   have:=N4.1 d.1.2;omega
  ·split at d
   ·simp only[bL,bM]at d
    omega
   ·cases d
theorem Asv(w:e.Wf)(hb:HB h)(hK:10000<K):
 Ok (Pc K (.agg e.cells) h) fun v h'=>v=.tuple [.agg (Bk (D5 e).1),I (D5 e).2]/\Ext h h':=by
 have l1:e.cells[1]? = some (I e.first):=rfl;have l2:e.cells[2]? = some (I e.count):=rfl;have l3:e.cells[3]? = some (I e.block):=rfl;have l4:e.cells[4]? = some (I e.many):=rfl;have l5:e.cells[5]? = some (I e.Bt):=rfl;have Y:=En.Az w;simp only[Pc,Aa];rw[Atb];have x1:Ext h (((h.new (.cells e.cells 203)).new (.cells (Bk Vt) 245)).new (.cells (Bk Vt) 245)):=((Au.new _ _).C8 _).C8 _;have u:(((h.new (.cells e.cells 203)).new (.cells (Bk Vt) 245)).new (.cells (Bk Vt) 245)).get h.next=some (.cells e.cells 203):=by
  rw[Ay _ (by show h.next<h.next+1+1;omega),Ay _ (aR _)];exact Ad _ _
 have m:(((h.new (.cells e.cells 203)).new (.cells (Bk Vt) 245)).new (.cells (Bk Vt) 245)).get (h.next+1)=some (.cells (Bk Vt) 245):=by
  rw[Ay _ (by show h.next+1<h.next+1+1;omega)];exact Ad _ _
 have d:(((h.new (.cells e.cells 203)).new (.cells (Bk Vt) 245)).new (.cells (Bk Vt) 245)).get (h.next+2)=some (.cells (Bk Vt) 245):=Ad _ _;have n1:(((h.new (.cells e.cells 203)).new (.cells (Bk Vt) 245)).new (.cells (Bk Vt) 245)).next=h.next+3:=rfl
 rw[show(h.new (.cells e.cells 203)).next=h.next+1 from rfl,show((h.new (.cells e.cells 203)).new (.cells (Bk Vt) 245)).next=h.next+2 from rfl];generalize ((h.new (.cells e.cells 203)).new (.cells (Bk Vt) 245)).new (.cells (Bk Vt) 245)=h1 at x1 u m d n1⊢;have H:=x1.hb hb;have zl:(Bk Vt).length=44:=by rw[Bg];rfl
 have fin:∀(l:List Nat) (er:Int) (S:Ab) (kk:Ab->R),(∀h',kk h'=Ii TT [.c (.ptr (h.next+1) 0) 245,.v (I er)] h')->HB S->Ext h S->S.get (h.next+1)=some (.cells (Bk Vt) 245)->l.length=44->(l,er)=D5 e ->
  Ok (stE 44 (.ptr (h.next+1) 0) (.agg (Bk l)) S kk) fun v h'=>v=.tuple [.agg (Bk (D5 e).1),I (D5 e).2]/\Ext h h':=by
  intro l er S kk al B x5 g5 hl he;have fl:(Bk l).length=44:=by rw[Bg,hl]
  refine Ok.st (Bk l) g5 rfl (by show Fl (Bk l)=44;rw[Bf,fl]) (Bm (by rw[zl];exact fl.symm)) ?_;have g6:(S.put (h.next+1) (.cells (Bk l) 245)).get (h.next+1)=some (.cells (Bk l) 245):=Ae _ _ _;rw[al,Ea g6 A4e.1 A4e.2 fl,<-he];exact .ret ⟨rfl,x5.Ao (.inr (by omega)) (B _ _ g5) _⟩
 rw[Cy u rfl,Ak Y];simp only[Gr];refine(A0x (K:=K) w).Am ?_;rintro _ h2 ⟨rfl,V⟩;have D:=V.hb H;have Z:=x1.trans V;have u:=V.at H u;have m:=V.at H m;have d:=V.at H d;have n2:h.next+3<=h2.next:=by have:=V.next;omega
 unfold D5 at fin⊢;cases hr:erB e with
 | false=>
  rw[hr]at fin;simp only[Aa,aW,aY]at fin⊢;rw[Cy d rfl,Ak zl];simp only[Gr];exact fin Vt 10 h2 _ (fun _=>rfl) D Z m rfl rfl
 | true=>
 rw[hr]at fin;simp only[Aa,bI,Aea]at fin⊢;obtain⟨⟨a1,b1⟩,⟨a2,b2⟩,⟨a3,b3⟩,⟨a4,b4⟩,⟨a5,b5⟩,_⟩:=Bd6 hr;have p0:A3k (h2.new (.cells [.Al,.bool false] 350)) h2.next 350 [] false:=⟨.Al,0,Ad _ _,.nil _ _ _ _,fun y=>absurd y (bS _)⟩
 have W:Ext h2 (h2.new (.cells [.Al,.bool false] 350)):=Au.new _ _;have u:=W.at D u;have m:=W.at D m;have d:=W.at D d;have E:=W.hb D;have aa:=Z.trans W;generalize h2.new (.cells [.Al,.bool false] 350)=h3 at p0 W u m d E aa⊢;generalize hP:h2.next=P at p0 n2⊢
 have up:∀{X hc:Ab},Ext h X->Au (fun i=>P<=i) X hc->Ext h hc:=fun x c=>x.then c fun j hj hl=>by
  have hj:P<=j:=hj;omega
 have A:∀{X hc:Ab} {i:Nat} {o:By},Au (fun i=>P<=i) X hc->HB X->X.get i=some o->i<P->hc.get i=some o:=fun c hb g hi=>c.at hb g (by omega)
 rw[Cz u rfl,l1];simp only[Gr];refine(Ln (K:=K) (w:=6) (by omega) p0 E (by simp) (by decide) (by decide) (v:=e.first) (by omega)).Am ?_;rintro _ S ⟨p,c,B⟩;rw[Xq (b:=281474976710655) a1 b1 (by decide),aQ rfl]at p;have x5:=up aa c;have u:=A c E u (by omega);have m:=A c E m (by omega);have d:=A c E d (by omega);rw[Cz u rfl,l2];simp only[Gr];refine(Ln (K:=K) (w:=1) (by omega) p B (by simp[Hq]) (by decide) (by decide) (v:=e.count) (by omega)).Am ?_;rintro _ h6 ⟨p,c,J⟩;rw[Xq (b:=4) (by omega) b4 (by decide),aQ rfl]at p;have x6:=up x5 c;have u:=A c B u (by omega);have m:=A c B m (by omega);have d:=A c B d (by omega);rw[Cz u rfl,l3];simp only[Gr];refine(Ln (K:=K) (w:=1) (by omega) p J (by simp[Hq]) (by decide) (by decide) (v:=e.block) (by omega)).Am ?_;rintro _ h7 ⟨p,c,L⟩;rw[Xq (b:=255) a2 b2 (by decide),aQ rfl]at p;have x7:=up x6 c;have u:=A c J u (by omega);have m:=A c J m (by omega);have d:=A c J d (by omega);rw[Cz u rfl,l4];simp only[Gr];refine(Ln (K:=K) (w:=2) (by omega) p L (by simp[Hq]) (by decide) (by decide) (v:=e.many) (by omega)).Am ?_;rintro _ h8 ⟨p,c,M⟩;rw[Xq (b:=256) a5 b5 (by decide),aQ rfl]at p;have x8:=up x7 c;have u:=A c L u (by omega);have m:=A c L m (by omega);have d:=A c L d (by omega);rw[Cz u rfl,l5];simp only[Gr];refine(Ln (K:=K) (w:=2) (by omega) p M (by simp[Hq]) (by decide) (by decide) (v:=e.Bt) (by omega)).Am ?_;rintro _ h9 ⟨p,c,T⟩;rw[Xq (b:=65535) a3 b3 (by decide),aQ rfl]at p;have x9:=up x8 c;have u:=A c M u (by omega);have m:=A c M m (by omega);have d:=A c M d (by omega)
 try simp only[Aa]
 rw[show ∀k:EV->R,Nv 32 1 (.ptr h.next 6) none none none k=k (.slice h.next 6 32 32 false)from fun k=>rfl];have au:O8 h9 1 32 (.slice h.next 6 32 32 false)=some (Bk e.bytes):=by
  show Ye h9 h.next 6 32=_
  unfold Ye Ave;rw[u];show Mj e.cells 6 32=_;rw[E6 (by rw[Y];decide)];show some (List.take 32 (Bk e.bytes))=_;rw[bR (by rw[Bg,w.len];decide)]
 refine(Axf (K:=K) (n:=32) p T (by simp[Hq]) rfl (by decide) (by decide) au w.len).Am ?_;rintro _ b7 ⟨p,c,F⟩;have aw:=up x9 c;have m:=A c T m (by omega);have d:=A c T d (by omega);have ep:([]++U2 6 e.first.toNat++U2 1 e.count.toNat++U2 1 e.block.toNat++U2 2 e.many.toNat++U2 2 e.Bt.toNat++e.bytes)=Y8 e:=by
  unfold Y8;rw[dN]
 have ad:∀b:Bool,(b||!true)=b:=by decide
 rw[ep]at p;simp only[ad]at p;have C:=A4s w;refine(A08 (K:=K) p F (by rw[C];decide)).Am ?_;rintro _ U ⟨y,q',rfl,ry,G,O,lq⟩;have m:=G.at F m;have d:=G.at F d;have ae:=aw.trans G;simp only[Aa];rw[show ∀k:EV->R,Nv 44 1 (.ptr (h.next+2) 0) none none none k=k (.slice (h.next+2) 0 44 44 false)from fun k=>rfl];have af:=ry.bs (by rw[C];decide);have hlen:=af.len;have Q:=af.cells;rw[C]at hlen Q;have ag:=A7p (h:=U) (i:=h.next+2) (n:=44) (r:=44) (op:=false) (t:=245) (hd:=[]) (Cv:=Bk Vt) d hlen (by decide) Q (by rw[Bg,C]) zl;rw[show([]:List EV).length=0 from rfl,dN]at ag;rw[ag,Ap];have ah:=O _ _ d;have d:(U.put (h.next+2) (.cells (Bk (Y8 e)) 245)).get (h.next+2)=some (.cells (Bk (Y8 e)) 245):=Ae _ _ _;have m:(U.put (h.next+2) (.cells (Bk (Y8 e)) 245)).get (h.next+1)=some (.cells (Bk Vt) 245):=by rw[Af _];exact m
 rw[Cy d rfl,Ak (by rw[Bg,C])];simp only[Gr];exact fin (Y8 e) 0 _ _ (fun _=>rfl) (O.put ah _) (ae.Ao (.inr (by omega)) ah _) m C rfl
theorem Bdz(a b c d e:Int){l:List EV}(g:l.length=44):Aca (Dg [(0,1),(1,1),(2,1),(3,1),(4,1),(5,44)]) [(0,I a),(1,I b),(2,I c),(3,I d),(4,I e),(5,.agg l)] Fr.zero.cells=some ([I a,I b,I c,I d,I e]++l):=by
 have hs:=Ak7 [I a,I b,I c,I d,I e] (Bk (List.replicate 44 0)) l (by rw[Bg,bT,g]);rw[<-U6]at hs;show Ax (Nat.beq (Fl l) 44) (oB (fun z=>some z) (Mh ([I a,I b,I c,I d,I e]++Bk (List.replicate 44 0)) 5 l)) none=_;rw[Bf,g,cI,Aj];rw[show(5:Nat) = [I a,I b,I c,I d,I e].length from rfl,hs];rfl
def Jl(e:En)(An off As seq:Int):Fr × Int:=
 if erB e=true/\frB ⟨e.kind,An,off,As,seq,(D5 e).1⟩=true/\e.first<=seq/\seq-e.count<e.first then(⟨e.kind,An,off,As,seq,(D5 e).1⟩,0)else(Fr.zero,10)
theorem A5c(w:e.Wf)(An off As seq:Int):(Jl e An off As seq).1.Wf:=by
 unfold Jl;split
 ·exact⟨Akx w,A9h w⟩
 ·exact Fr.Gn
theorem Afg(w:e.Wf)(hb:HB h)(hK:10000<K)(An off As seq:Int):
 Ok (J6 K (.agg e.cells) (I An) (I off) (I As) (I seq) h) fun v h'=>v=.tuple [.agg (Jl e An off As seq).1.cells,I (Jl e An off As seq).2]/\Ext h h':=by
 have l0:e.cells[0]? = some (I e.kind):=rfl;have l1:e.cells[1]? = some (I e.first):=rfl;have l2:e.cells[2]? = some (I e.count):=rfl;have ab:=En.Az w;have zl:=Fr.Az Fr.Gn;have F:(⟨e.kind,An,off,As,seq,(D5 e).1⟩:Fr).Wf:=⟨Akx w,A9h w⟩;have fl:=Fr.Az F;simp only[J6,Aa];rw[Fr.Hj];have x1:Ext h ((h.new (.cells e.cells 203)).new (.cells Fr.zero.cells 247)):=(Au.new _ _).C8 _;have g:((h.new (.cells e.cells 203)).new (.cells Fr.zero.cells 247)).get h.next=some (.cells e.cells 203):=by
  rw[Ay _ (aR _)];exact Ad _ _
 have d:((h.new (.cells e.cells 203)).new (.cells Fr.zero.cells 247)).get (h.next+1)=some (.cells Fr.zero.cells 247):=Ad _ _;have n1:((h.new (.cells e.cells 203)).new (.cells Fr.zero.cells 247)).next=h.next+2:=rfl
 rw[show(h.new (.cells e.cells 203)).next=h.next+1 from rfl];generalize (h.new (.cells e.cells 203)).new (.cells Fr.zero.cells 247)=h1 at x1 g d n1⊢;have C:=x1.hb hb;have fin:∀(f:Fr) (er:Int) (u:Ab) (kk:Ab->R),(∀h',kk h'=Ii TT [.c (.ptr (h.next+1) 0) 247,.v (I er)] h')->HB u->Ext h u->u.get (h.next+1)=some (.cells Fr.zero.cells 247)->f.Wf->(f,er)=Jl e An off As seq ->
  Ok (stE 49 (.ptr (h.next+1) 0) (.agg f.cells) u kk) fun v h'=>v=.tuple [.agg (Jl e An off As seq).1.cells,I (Jl e An off As seq).2]/\Ext h h':=by
  intro f er u kk af A G g wf he;have fl:=Fr.Az wf;refine Ok.st f.cells g rfl (by show Fl f.cells=49;rw[Bf,fl]) (Bm (by rw[zl];exact fl.symm)) ?_;have g6:(u.put (h.next+1) (.cells f.cells 247)).get (h.next+1)=some (.cells f.cells 247):=Ae _ _ _;rw[af,Ea g6 A4i.1 A4i.2 fl,<-he];exact .ret ⟨rfl,G.Ao (.inr (by omega)) (A _ _ g) _⟩
 rw[Cy g rfl,Ak ab];simp only[Gr];refine(Asv (K:=K) w C hK).Am ?_;rintro _ h2 ⟨rfl,O⟩;have H:=O.hb C;have ag:=x1.trans O;have g:=O.at C g;have d:=O.at C d;have n2:h.next+2<=h2.next:=by have:=O.next;omega
 simp only[Aa];rw[Atb];have S:Ext h2 (h2.new (.cells (Bk Vt) 245)):=Au.new _ _;have m:(h2.new (.cells (Bk Vt) 245)).get h2.next=some (.cells (Bk Vt) 245):=Ad _ _
 have g:=S.at H g;have d:=S.at H d;have J:=S.hb H;have T:=ag.trans S;have n3:(h2.new (.cells (Bk Vt) 245)).next=h2.next+1:=rfl
 generalize h2.new (.cells (Bk Vt) 245)=M at S m g d J T n3⊢;generalize h2.next=P at m n2 n3⊢
 have bl:(Bk (D5 e).1).length=44:=by rw[Bg,Akx w]
 refine Ok.st (Bk (D5 e).1) m rfl (by show Fl (Bk (D5 e).1)=44;rw[Bf,bl]) (Bm (by rw[Bg];exact bl.symm)) ?_;have U:=J _ _ m;have m:(M.put P (.cells (Bk (D5 e).1) 245)).get P=some (.cells (Bk (D5 e).1) 245):=Ae _ _ _;have g:(M.put P (.cells (Bk (D5 e).1) 245)).get h.next=some (.cells e.cells 203):=by rw[Af _];exact g
 have d:(M.put P (.cells (Bk (D5 e).1) 245)).get (h.next+1)=some (.cells Fr.zero.cells 247):=by rw[Af _];exact d
 have x4:Ext h (M.put P (.cells (Bk (D5 e).1) 245)):=T.Ao (.inr (by omega)) U _;have D:=J.put U (.cells (Bk (D5 e).1) 245);have n4:(M.put P (.cells (Bk (D5 e).1) 245)).next=P+1:=n3
 generalize M.put P (.cells (Bk (D5 e).1) 245)=h4 at m g d x4 D n4⊢
 try simp only[Aa]
 rw[Cz g rfl,l0];simp only[Gr];rw[Cy m rfl,Ak bl];simp only[Gr]
 try rw[Fr.Hj]
 rw[Aw (Bdz e.kind An off As seq bl)]
 try simp only[Aa]
 have G:Ext h4 (h4.new (.cells Fr.zero.cells 247)):=Au.new _ _;have j:(h4.new (.cells Fr.zero.cells 247)).get h4.next=some (.cells Fr.zero.cells 247):=Ad _ _
 have g:=G.at D g;have d:=G.at D d;have A:=G.hb D;have V:=x4.trans G;generalize h4.new (.cells Fr.zero.cells 247)=u at G j g d A V⊢;generalize h4.next=Q at j n4⊢
 refine Ok.st (⟨e.kind,An,off,As,seq,(D5 e).1⟩:Fr).cells j rfl (by show Fl (⟨e.kind,An,off,As,seq,(D5 e).1⟩:Fr).cells=49;rw[Bf,fl]) (Bm (by rw[zl];exact fl.symm)) ?_;have W:=A _ _ j;have j:(u.put Q (.cells (⟨e.kind,An,off,As,seq,(D5 e).1⟩:Fr).cells 247)).get Q=some (.cells (⟨e.kind,An,off,As,seq,(D5 e).1⟩:Fr).cells 247):=Ae _ _ _;have g:(u.put Q (.cells (⟨e.kind,An,off,As,seq,(D5 e).1⟩:Fr).cells 247)).get h.next=some (.cells e.cells 203):=by rw[Af _];exact g
 have d:(u.put Q (.cells (⟨e.kind,An,off,As,seq,(D5 e).1⟩:Fr).cells 247)).get (h.next+1)=some (.cells Fr.zero.cells 247):=by rw[Af _];exact d
 have x6:Ext h (u.put Q (.cells (⟨e.kind,An,off,As,seq,(D5 e).1⟩:Fr).cells 247)):=V.Ao (.inr (by omega)) W _;have o:=A.put W (.cells (⟨e.kind,An,off,As,seq,(D5 e).1⟩:Fr).cells 247);generalize u.put Q (.cells (⟨e.kind,An,off,As,seq,(D5 e).1⟩:Fr).cells 247)=h6 at j g d x6 o⊢;have ai:(D5 e).2=if erB e=true then 0 else 10:=by unfold D5;split<;>rfl
 rw[ai];unfold Jl at fin⊢;generalize aj:(⟨e.kind,An,off,As,seq,(D5 e).1⟩:Fr)=f at fin F fl j⊢;have no:∀E:Ab,Ext h6 E->¬(erB e=true/\frB f=true/\e.first<=seq/\seq-e.count<e.first)->Ok (Bo (Dg [(0,1),(1,1),(2,1),(3,1),(4,1),(5,44)]) Fr.zero.cells [] fun al=>stE 49 (.ptr (h.next+1) 0) al E fun z=>Ii TT [.c (.ptr (h.next+1) 0) 247,.v (.int .i64 10)] z) _:=fun E B ao=>by
  rw[Aw (l:=Fr.zero.cells) rfl];exact fin Fr.zero 10 E _ (fun _=>rfl) (B.hb o) (x6.trans B) (B.at o d) Fr.Gn (by rw[aM ao])
 simp only[I,Ac];by_cases X:erB e=true
 ·rw[aQ X]
  simp only[aC,aA,Aa];rw[Cy j rfl,Ak fl];simp only[Gr];refine(Agu (K:=K) f).Am ?_;rintro _ E ⟨rfl,B⟩;have g:=B.at o g;cases hf:frB f with
  | false=>
   simp only[Aa,Ac,Mv,Jm,G9];have r:=no E B (by rw[hf];simp);rw[hf]at r;exact r
  | true=>
   have L:=hf;rw[<-aj]at L;simp only[frB,bL]at L;have a2:=N4.1 L.2.2.2.2;have a5:=(Bd6 X).2.2.2.1;have rr:=no E B;have rf:=fin f 0 E (fun z=>Ii TT [RV.c (EV.ptr (h.next+1) 0) 247,RV.v (EV.int IntKind.i64 0)] z) (fun _=>rfl) (B.hb o) (x6.trans B) (B.at o d) F;rw[hf]at rr rf;simp only[eq_self]at rr rf;simp only[Aa,Ac,Mv];rw[Cz g rfl,l1];simp only[Gr,I,Ac];by_cases Y:seq<e.first
   ·rw[show decide (seq<e.first)=true from aJ Y]
    simp only[Aa,Ac,Jm,G9];exact rr fun y=>by omega
   ·rw[show decide (seq<e.first)=false from aK Y]
    simp only[Aa,Ac,Jm];rw[Cz g rfl,l1];simp only[Gr];rw[Cz g rfl,l2];simp only[Gr,I,Ac];rw[Cg];by_cases Z:e.first<=seq-e.count
    ·rw[show decide (e.first<=seq-e.count)=true from aJ Z]
     simp only[Aa,Ac,G9];exact rr fun y=>by omega
    ·rw[show decide (e.first<=seq-e.count)=false from aK Z]
     simp only[Aa,Ac,G9,Abh];rw[Cy (B.at o j) rfl,Ak fl];exact rf (by rw[aQ ⟨X,trivial,by omega,by omega⟩])
 ·rw[aM X]
  simp only[show ¬((10:Int)=0) by decide,aF,aB,Aa,Ac,Mv,Jm,G9];exact no h6 (Au.refl _) fun y=>X y.1
def En.zero:En:=⟨0,0,0,0,0,0,D4⟩
theorem En.Hj:List.replicate 6 (EV.int .i64 0)++List.replicate 32 (EV.int .u8 0)=En.zero.cells:=by kernel_rfl
theorem En.Gn:En.zero.Wf:=⟨rfl,fun b hb=>by rw[bc hb];decide⟩
theorem Be9:TT.size 203=some 38/\TT.agg 203=some true:=⟨by kernel_rfl,by kernel_rfl⟩
def Aa0(kind:Int)(p:List Nat):En:=⟨kind,Qs (p.take 6),Qs ((p.drop 6).take 1),Qs (((p.drop 6).drop 1).take 1),Qs ((((p.drop 6).drop 1).drop 1).take 2),Qs (((((p.drop 6).drop 1).drop 1).drop 2).take 2),((((((p.drop 6).drop 1).drop 1).drop 2).drop 2).take 32)⟩
theorem A0w(d:p.length=44)(hu:∀b∈p,b<256):(Aa0 kind p).Wf:=by
 refine⟨?_,fun b hb=>hu b ?_⟩
 ·simp only[Aa0,bH,aU,d];decide
 ·simp only[Aa0]at hb
  exact aE (aE (aE (aE (aE (bO hb)))))
def ofF(kind:Int)(p:List Nat):En × Int:=
 if(D5 (Aa0 kind p)).2=0/\(D5 (Aa0 kind p)).1=p then(Aa0 kind p,0)else(En.zero,10)
theorem Bmw(d:p.length=44)(hu:∀b∈p,b<256):(ofF kind p).1.Wf:=by
 unfold ofF;split
 ·exact A0w d hu
 ·exact En.Gn
theorem Bel(k:Int)(a b c d e:Nat):Aca (Dg [(0,1),(1,1),(2,1),(3,1),(4,1),(5,1),(6,32)]) [(0,I k),(1,Nk .i64 a),(2,Nk .i64 b),(3,Nk .i64 c),(4,Nk .i64 d),(5,Nk .i64 e)] En.zero.cells=some ([I k,Nk .i64 a,Nk .i64 b,Nk .i64 c,Nk .i64 d,Nk .i64 e]++Bk D4):=rfl
theorem A9i(hp:p.length=44)(hu:∀b∈p,b<256)(hb:HB h)(hK:10000<K)(kind:Int):
 Ok (Au8 K (I kind) (.agg (Bk p)) h) fun v h'=>v=.tuple [.agg (ofF kind p).1.cells,I (ofF kind p).2]/\Ext h h':=by
 have zl:=En.Az En.Gn;have ul:(Bk p).length=44:=by rw[Bg,hp]
 simp only[Au8,Aa];rw[En.Hj];have x1:Ext h ((h.new (.cells (Bk p) 245)).new (.cells En.zero.cells 203)):=(Au.new _ _).C8 _;have m:((h.new (.cells (Bk p) 245)).new (.cells En.zero.cells 203)).get h.next=some (.cells (Bk p) 245):=by
  rw[Ay _ (aR _)];exact Ad _ _
 have u:((h.new (.cells (Bk p) 245)).new (.cells En.zero.cells 203)).get (h.next+1)=some (.cells En.zero.cells 203):=Ad _ _;have n1:((h.new (.cells (Bk p) 245)).new (.cells En.zero.cells 203)).next=h.next+2:=rfl
 rw[show(h.new (.cells (Bk p) 245)).next=h.next+1 from rfl];generalize (h.new (.cells (Bk p) 245)).new (.cells En.zero.cells 203)=h1 at x1 m u n1⊢;have a8:=x1.hb hb;have wfE:=A0w (kind:=kind) hp hu;have fin:∀(e:En) (er:Int) (h5:Ab) (kk:Ab->R),(∀h',kk h'=Ii TT [.c (.ptr (h.next+1) 0) 203,.v (I er)] h')->HB h5->Ext h h5->h5.get (h.next+1)=some (.cells En.zero.cells 203)->e.Wf->(e,er)=ofF kind p ->
  Ok (stE 38 (.ptr (h.next+1) 0) (.agg e.cells) h5 kk) fun v h'=>v=.tuple [.agg (ofF kind p).1.cells,I (ofF kind p).2]/\Ext h h':=by
  intro e er h5 kk c0 Y x5 g5 wf he;have fl:=En.Az wf;refine Ok.st e.cells g5 rfl (by show Fl e.cells=38;rw[Bf,fl]) (Bm (by rw[zl];exact fl.symm)) ?_;have g6:(h5.put (h.next+1) (.cells e.cells 203)).get (h.next+1)=some (.cells e.cells 203):=Ae _ _ _;rw[c0,Ea g6 Be9.1 Be9.2 fl,<-he];exact .ret ⟨rfl,x5.Ao (.inr (by omega)) (Y _ _ g5) _⟩
 rw[show ∀k:EV->R,Nv 44 1 (.ptr h.next 0) none none none k=k (.slice h.next 0 44 44 false)from fun k=>rfl];have bs:Bs h1 (.slice h.next 0 44 44 false) h.next 0 p:=by
  refine⟨44,false,_,Bk p,by rw[hp],by omega,m,rfl,by rw[ul];omega,?_⟩;rw[dE,hp,<-ul,cL]
 refine(Ae6 (K:=K) bs a8 (by omega) (by omega)).Am ?_;rintro _ h5 ⟨Rr,q,rfl,d0,x5,Y,ed⟩;have m:=x5.at a8 m;have u:=x5.at a8 u;have da:=x1.trans x5;have ee:Rr<h5.next:=by obtain⟨_,g,_⟩:=d0.Mn;exact Y _ _ g
 have ef:h.next+1<Rr:=by have:=d0.ne;omega
 have up:∀{Z hc:Ab},Ext h Z->Au (fun i=>i=Rr) Z hc->Ext h hc:=fun x c=>x.then c fun j hj db=>by
  have hj:j=Rr:=hj;omega
 have d:∀{Z hc:Ab} {i:Nat} {o:By},Au (fun i=>i=Rr) Z hc->HB Z->Z.get i=some o->i≠Rr->hc.get i=some o:=fun c hb g hi=>c.at hb g hi
 refine(K2 (K:=K) (w:=6) d0 Y (by omega) (by decide) (by decide) (by omega) hu).Am ?_;rintro _ h6 ⟨rfl,d1,c6,bb⟩;have m:=d c6 Y m (by omega);have u:=d c6 Y u (by omega);have x6:=up da c6;refine(K2 (K:=K) (w:=1) d1 bb (by omega) (by decide) (by decide) (by simp only[aU];omega) (fun b hb=>hu b (aE hb))).Am ?_;rintro _ h7 ⟨rfl,d2,c7,bf⟩;have m:=d c7 bb m (by omega);have u:=d c7 bb u (by omega);have x7:=up x6 c7;refine(K2 (K:=K) (w:=1) d2 bf (by omega) (by decide) (by decide) (by simp only[aU];omega) (fun b hb=>hu b (aE (aE hb)))).Am ?_;rintro _ h8 ⟨rfl,d3,c8,bj⟩;have m:=d c8 bf m (by omega);have u:=d c8 bf u (by omega);have x8:=up x7 c8;refine(K2 (K:=K) (w:=2) d3 bj (by omega) (by decide) (by decide) (by simp only[aU];omega) (fun b hb=>hu b (aE (aE (aE hb))))).Am ?_;rintro _ h9 ⟨rfl,d4,c9,bn⟩;have m:=d c9 bj m (by omega);have u:=d c9 bj u (by omega);have x9:=up x8 c9;refine(K2 (K:=K) (w:=2) d4 bn (by omega) (by decide) (by decide) (by simp only[aU];omega) (fun b hb=>hu b (aE (aE (aE (aE hb)))))).Am ?_;rintro _ O ⟨rfl,d5,aw,W⟩;have m:=d aw bn m (by omega);have u:=d aw bn u (by omega);have df:=up x9 aw
 try rw[En.Hj]
 rw[Aw (Bel kind _ _ _ _ _)]
 try simp only[Aa]
 have aa:Ext O (O.new (.cells En.zero.cells 203)):=Au.new _ _;have H:(O.new (.cells En.zero.cells 203)).get O.next=some (.cells En.zero.cells 203):=Ad _ _
 have bz:(O.new (.cells En.zero.cells 203)).next=O.next+1:=rfl
 have m:=aa.at W m;have u:=aa.at W u;have J:=aa.hb W;have d5:=d5.ext W aa;have b5:=df.trans aa;have hF:Rr<O.next:=by have:=c6.next;have:=c7.next;have:=c8.next;have:=c9.next;have:=aw.next;omega
 generalize O.new (.cells En.zero.cells 203)=af at aa H bz m u J d5 b5⊢;generalize O.next=Q at H bz hF⊢
 have G:(((((p.drop 6).drop 1).drop 1).drop 2).drop 2).length=32:=by simp only[aU];omega
 unfold ofF Aa0 at fin⊢;unfold Aa0 at wfE;generalize (((((p.drop 6).drop 1).drop 1).drop 2).drop 2)=body at d5 G fin wfE⊢;generalize Qs (p.take 6)=A at fin wfE⊢;generalize Qs ((p.drop 6).take 1)=B at fin wfE⊢;generalize Qs (((p.drop 6).drop 1).take 1)=C at fin wfE⊢;generalize Qs ((((p.drop 6).drop 1).drop 1).take 2)=D at fin wfE⊢;generalize Qs (((((p.drop 6).drop 1).drop 1).drop 2).take 2)=F at fin wfE⊢;have b6:body.take 32=body:=bR (by omega);rw[b6]at fin wfE⊢;have a2:([I kind,Nk .i64 A,Nk .i64 B,Nk .i64 C,Nk .i64 D,Nk .i64 F]++Bk D4).length=38:=by rw[aG,Bg];rfl
 refine Ok.st ([I kind,Nk .i64 A,Nk .i64 B,Nk .i64 C,Nk .i64 D,Nk .i64 F]++Bk D4) H rfl (by show Fl ([I kind,Nk .i64 A,Nk .i64 B,Nk .i64 C,Nk .i64 D,Nk .i64 F]++Bk D4)=38;rw[Bf,a2]) (Bm (by rw[zl];exact a2.symm)) ?_;have lF:=J _ _ H;have ag:Au (fun i=>i=Q) af (af.put Q (.cells ([I kind,Nk .i64 A,Nk .i64 B,Nk .i64 C,Nk .i64 D,Nk .i64 F]++Bk D4) 203)):=(Au.refl (S:=fun i=>i=Q) af).Ao (.inl rfl) lF _;have H:(af.put Q (.cells ([I kind,Nk .i64 A,Nk .i64 B,Nk .i64 C,Nk .i64 D,Nk .i64 F]++Bk D4) 203)).get Q=some (.cells ([I kind,Nk .i64 A,Nk .i64 B,Nk .i64 C,Nk .i64 D,Nk .i64 F]++Bk D4) 203):=Ae _ _ _;have L:=J.put lF (.cells ([I kind,Nk .i64 A,Nk .i64 B,Nk .i64 C,Nk .i64 D,Nk .i64 F]++Bk D4) 203);generalize af.put Q (.cells ([I kind,Nk .i64 A,Nk .i64 B,Nk .i64 C,Nk .i64 D,Nk .i64 F]++Bk D4) 203)=dg at ag H L⊢;have b7:∀{Z hc:Ab},Ext h Z->Au (fun i=>i=Q) Z hc->Ext h hc:=fun x c=>x.then c fun j hj db=>by
  have hj:j=Q:=hj;omega
 have T:∀{Z hc:Ab} {i:Nat} {o:By},Au (fun i=>i=Q) Z hc->HB Z->Z.get i=some o->i≠Q->hc.get i=some o:=fun c hb g hi=>c.at hb g hi
 have m:=T ag J m (by omega);have u:=T ag J u (by omega);have d5:=d5.chg J ag (by have:=d5.ne;intro y;omega) (by intro y;omega);have di:=b7 b5 ag
 try simp only[Aa]
 rw[show ∀k:EV->R,Nv 32 1 (.ptr Q 6) none none none k=k (.slice Q 6 32 32 false)from fun k=>rfl];have dl:Rd dg.lift Rr q (0+6+1+1+2+2) body:=d5.chg L (S:=fun _=>False) ⟨fun i _ _=>Br _ _,aD _,fun w _ w2 _=>w2,fun y=>Da y⟩ id id;refine Ok.bC (S:=fun i=>i=Rr) (A96 (K:=K) (n:=32) dl (Da L) (by decide) (by omega)) (fun _ _ p=>p.2.2.1) ?_;rintro b8 dB ah s' ⟨ai,_,_,bo⟩ a5 ax bp;have X:=a5.hb bo;have ai:=ai.frame (a5.get _);rw[b6]at ai;have m:=d ax L m (by omega);have u:=d ax L u (by omega);have H:=d ax L H (by omega);have dj:=up di ax;have hlen:lenOf b8=some 32:=by have:=ai.len;rw[G]at this;exact this
 have ca:O8 ah.lift 1 32 b8=some (Bk body):=by have:=ai.lift.cells;rw[G]at this;exact this
 have dm:=A7p (h:=ah.lift) (i:=Q) (n:=32) (r:=32) (op:=false) (t:=203) (hd:=[I kind,Nk .i64 A,Nk .i64 B,Nk .i64 C,Nk .i64 D,Nk .i64 F]) (Cv:=Bk D4) (by rw[Br];exact H) hlen (by decide) ca (by rw[Bg,G]) (by rw[Bg];rfl);have cb:=X _ _ H;refine Ok.Bkb (S:=fun i=>i=Q) (by rcases bp with rfl|⟨w,rfl,_⟩<;>kernel_rfl) (by rcases bp with rfl|⟨w,rfl,_⟩<;>kernel_rfl) (fun w=>by rcases bp with rfl|⟨w,rfl,_⟩<;>kernel_rfl) (P:=fun v h'=>h'=ah.lift.put Q (.cells ([I kind,Nk .i64 A,Nk .i64 B,Nk .i64 C,Nk .i64 D,Nk .i64 F]++Bk body) 203)) ⟨_,_,dm,rfl⟩ (fun _ _ p=>by rw[p];exact(Au.refl (S:=fun i=>i=Q) ah.lift).Ao (.inl rfl) (show Q<ah.lift.next from cb) _) ?_;rintro eo dC dt s2 rfl cc ay _;have U:=ay.hb X;have H:dt.get Q=some (.cells (⟨kind,A,B,C,D,F,body⟩:En).cells 203):=by rw[cc.get];exact Ae _ _ _
 have m:=T ay X m (by omega);have u:=T ay X u (by omega);have du:=b7 dj ay;generalize hE:(⟨kind,A,B,C,D,F,body⟩:En)=E at fin wfE H⊢;have el:=En.Az wfE;rw[Cy H rfl,Ak el];simp only[Gr];refine(Asv (K:=K) wfE U hK).Am ?_;rintro _ V ⟨rfl,aj⟩;have M:=aj.hb U;have m:=aj.at U m;have u:=aj.at U u;have H:=aj.at U H;have a6:=du.trans aj;have cf:=M _ _ H
 try simp only[Aa]
 rw[Atb];have ab:Ext V (V.new (.cells (Bk Vt) 245)):=Au.new _ _;have g8:(V.new (.cells (Bk Vt) 245)).get V.next=some (.cells (Bk Vt) 245):=Ad _ _
 have m:=ab.at M m;have u:=ab.at M u;have H:=ab.at M H;have al:=ab.hb M;have a7:=a6.trans ab;have ch:h.next+2<=V.next:=by have:=x1.next;have:=a6.next;have:=M _ _ (by assumption:V.get (h.next+1)=some (.cells En.zero.cells 203));omega
 generalize V.new (.cells (Bk Vt) 245)=ad at ab g8 m u H al a7⊢;generalize V.next=P at g8 cf ch⊢
 have bl:(Bk (D5 E).1).length=44:=by rw[Bg,Akx wfE]
 refine Ok.st (Bk (D5 E).1) g8 rfl (by show Fl (Bk (D5 E).1)=44;rw[Bf,bl]) (Bm (by rw[Bg];exact bl.symm)) ?_;have l8:=al _ _ g8;have g8:(ad.put P (.cells (Bk (D5 E).1) 245)).get P=some (.cells (Bk (D5 E).1) 245):=Ae _ _ _;have m:(ad.put P (.cells (Bk (D5 E).1) 245)).get h.next=some (.cells (Bk p) 245):=by rw[Af _];exact m
 have u:(ad.put P (.cells (Bk (D5 E).1) 245)).get (h.next+1)=some (.cells En.zero.cells 203):=by rw[Af _];exact u
 have H:(ad.put P (.cells (Bk (D5 E).1) 245)).get Q=some (.cells E.cells 203):=by rw[Af _];exact H
 have ao:Ext h (ad.put P (.cells (Bk (D5 E).1) 245)):=a7.Ao (.inr (by omega)) l8 _;have aq:=al.put l8 (.cells (Bk (D5 E).1) 245);generalize ad.put P (.cells (Bk (D5 E).1) 245)=bu at g8 m u H ao aq⊢;simp only[I,Ac];have no:¬((D5 E).2=0/\(D5 E).1=p)->Ok (Bo (Dg [(0,1),(1,1),(2,1),(3,1),(4,1),(5,1),(6,32)]) En.zero.cells [] fun dw=>stE 38 (.ptr (h.next+1) 0) dw bu fun z=>Ii TT [.c (.ptr (h.next+1) 0) 203,.v (.int .i64 10)] z) _:=fun dx=>by
  rw[Aw (l:=En.zero.cells) rfl];exact fin En.zero 10 bu _ (fun _=>rfl) aq ao u En.Gn (by rw[aM dx])
 by_cases h0:(D5 E).2=0
 ·rw[show decide (¬(D5 E).2=0)=false from aK fun y=>y h0]
  simp only[Aa];rw[Cy g8 rfl,Ak bl];simp only[Gr];rw[Cy m rfl,Ak ul];simp only[Gr];rw[Bg4 Bta (Akx wfE) hp];by_cases az:(D5 E).1=p
  ·rw[show decide (¬(D5 E).1=p)=false from aK fun y=>y az]
   simp only[Aif,Aa,Ayq];rw[Cy H rfl,Ak el];exact fin E 0 bu _ (fun _=>rfl) aq ao u wfE (by rw[aQ ⟨h0,az⟩])
  ·rw[show decide (¬(D5 E).1=p)=true from aJ az]
   simp only[Aif,Aa];exact no fun y=>az y.2
 ·rw[show decide (¬(D5 E).2=0)=true from aJ h0]
  simp only[Aa,Aif];exact no fun y=>h0 y.1
def Vh(f:Fr):En × Int:=
 if ¬(ofF f.kind f.body).2=0 then(En.zero,(ofF f.kind f.body).2)else
 if ¬(Jl (ofF f.kind f.body).1 f.An f.off f.As f.seq).2=0 then(En.zero,(Jl (ofF f.kind f.body).1 f.An f.off f.As f.seq).2)else((ofF f.kind f.body).1,0)
theorem A3q(w:f.Wf)(hb:HB h)(X:10000<K):
 Ok (Amc K (.agg f.cells) h) fun v h'=>v=.tuple [.agg (Vh f).1.cells,I (Vh f).2]/\(Vh f).1.Wf/\Ext h h':=by
 have l0:f.cells[0]? = some (I f.kind):=rfl;have l1:f.cells[1]? = some (I f.An):=rfl;have Z:f.cells[2]? = some (I f.off):=rfl;have l3:f.cells[3]? = some (I f.As):=rfl;have l4:f.cells[4]? = some (I f.seq):=rfl;have S:=Fr.Az w;have l5:Mj f.cells 5 44=some (Bk f.body):=by
  rw[E6 (by rw[S];decide)];show some (List.take 44 (Bk f.body))=_;rw[bR (by rw[Bg,w.len];decide)]
 have zl:=En.Az En.Gn;have o:=Bmw (kind:=f.kind) w.len w.u8;have ol:=En.Az o;simp only[Amc,Aa];rw[En.Hj];have T:Ext h ((h.new (.cells f.cells 247)).new (.cells En.zero.cells 203)):=(Au.new _ _).C8 _;have d:((h.new (.cells f.cells 247)).new (.cells En.zero.cells 203)).get h.next=some (.cells f.cells 247):=by
  rw[Ay _ (aR _)];exact Ad _ _
 have g:((h.new (.cells f.cells 247)).new (.cells En.zero.cells 203)).get (h.next+1)=some (.cells En.zero.cells 203):=Ad _ _;have n1:((h.new (.cells f.cells 247)).new (.cells En.zero.cells 203)).next=h.next+2:=rfl
 rw[show(h.new (.cells f.cells 247)).next=h.next+1 from rfl];generalize (h.new (.cells f.cells 247)).new (.cells En.zero.cells 203)=h1 at T d g n1⊢;have u:=T.hb hb;have fin:∀(e:En) (D:Int) (y:Ab) (kk:Ab->R),(∀h',kk h'=Ii TT [.c (.ptr (h.next+1) 0) 203,.v (I D)] h')->HB y->Ext h y->y.get (h.next+1)=some (.cells En.zero.cells 203)->e.Wf->(e,D)=Vh f ->
  Ok (stE 38 (.ptr (h.next+1) 0) (.agg e.cells) y kk) fun v h'=>v=.tuple [.agg (Vh f).1.cells,I (Vh f).2]/\(Vh f).1.Wf/\Ext h h':=by
  intro e D y kk U A E Y wf he;have fl:=En.Az wf;refine Ok.st e.cells Y rfl (by show Fl e.cells=38;rw[Bf,fl]) (Bm (by rw[zl];exact fl.symm)) ?_;have g6:(y.put (h.next+1) (.cells e.cells 203)).get (h.next+1)=some (.cells e.cells 203):=Ae _ _ _;rw[U,Ea g6 Be9.1 Be9.2 fl,<-he];exact .ret ⟨rfl,wf,E.Ao (.inr (by omega)) (A _ _ Y) _⟩
 rw[Cz d rfl,l0];simp only[Gr];rw[Cy d rfl,l5];simp only[Gr];refine(A9i (K:=K) w.len w.u8 u X f.kind).Am ?_;rintro _ h2 ⟨rfl,F⟩;have B:=F.hb u;have V:=T.trans F;have d:=F.at u d;have g:=F.at u g;have n2:h.next+2<=h2.next:=by have:=F.next;omega
 try simp only[Aa]
 try rw[En.Hj]
 have G:Ext h2 (h2.new (.cells En.zero.cells 203)):=Au.new _ _;have m:(h2.new (.cells En.zero.cells 203)).get h2.next=some (.cells En.zero.cells 203):=Ad _ _
 have d:=G.at B d;have g:=G.at B g;have C:=G.hb B;have H:=V.trans G;generalize h2.new (.cells En.zero.cells 203)=J at G m d g C H⊢;generalize h2.next=P at m n2⊢
 refine Ok.st (ofF f.kind f.body).1.cells m rfl (by show Fl (ofF f.kind f.body).1.cells=38;rw[Bf,ol]) (Bm (by rw[zl];exact ol.symm)) ?_;have L:=C _ _ m;have m:(J.put P (.cells (ofF f.kind f.body).1.cells 203)).get P=some (.cells (ofF f.kind f.body).1.cells 203):=Ae _ _ _;have d:(J.put P (.cells (ofF f.kind f.body).1.cells 203)).get h.next=some (.cells f.cells 247):=by rw[Af _];exact d
 have g:(J.put P (.cells (ofF f.kind f.body).1.cells 203)).get (h.next+1)=some (.cells En.zero.cells 203):=by rw[Af _];exact g
 have W:Ext h (J.put P (.cells (ofF f.kind f.body).1.cells 203)):=H.Ao (.inr (by omega)) L _;have j:=C.put L (.cells (ofF f.kind f.body).1.cells 203);generalize J.put P (.cells (ofF f.kind f.body).1.cells 203)=h4 at m d g W j⊢;unfold Vh at fin⊢;generalize (ofF f.kind f.body).2=D at fin⊢;generalize (ofF f.kind f.body).1=e at fin o ol m⊢;simp only[I,Ac];by_cases h0:D=0
 ·subst h0
  simp only[aC,aA,Aa,aY,As0]at fin⊢;rw[Cy m rfl,Ak ol];simp only[Gr];rw[Cz d rfl,l1];simp only[Gr,Aa];rw[Cz d rfl,Z];simp only[Gr,Aa];rw[Cz d rfl,l3];simp only[Gr,Aa];rw[Cz d rfl,l4];simp only[Gr,Aa];refine(Afg (K:=K) o j X f.An f.off f.As f.seq).Am ?_;rintro _ y ⟨rfl,E⟩;have A:=E.hb j;have g:=E.at j g;have m:=E.at j m;have M:=W.trans E;generalize (Jl e f.An f.off f.As f.seq).2=O at fin⊢;simp only[Aa,I,Ac];by_cases Q:O=0
  ·subst Q
   simp only[aC,aA,Aa,aY,Asi]at fin⊢;rw[Cy m rfl,Ak ol];exact fin e 0 y _ (fun _=>rfl) A M g o rfl
  ·simp only[Q,aF,aB,Aa,bI]at fin⊢
   rw[Aw (l:=En.zero.cells) rfl];exact fin En.zero O y _ (fun _=>rfl) A M g En.Gn rfl
 ·simp only[h0,aF,aB,Aa,bI]at fin⊢
  rw[Aw (l:=En.zero.cells) rfl];exact fin En.zero D h4 _ (fun _=>rfl) j W g En.Gn rfl
theorem Bfx:∀(w a:Nat),Qs (U2 w a)=a%256^w
 | 0,a=>by simp[U2,Qs,Nat.mod_one]
 | w+1,a=>by
  rw[A2b,A54,Bfx w a,Hq,Nat.mod_pow_succ]
theorem Au5 {w:Nat}{b:Int}(h0:0<=v)(hb:v<=b)(hw:b<(256^w:Nat)):((Qs (U2 w v.toNat):Nat):Int)=v:=by
 rw[Bfx,fK (by omega)];omega
theorem Btl {a b:List Nat}(h:a.length=n):(a++b).take n=a:=by subst h;simp
theorem Bsu {a b:List Nat}(h:a.length=n):(a++b).drop n=b:=by subst h;simp
theorem A3u(w:e.Wf)(d:erB e=true):Aa0 e.kind (Y8 e)=e:=by
 obtain⟨⟨g,b1⟩,⟨j,b2⟩,⟨a3,b3⟩,⟨a4,b4⟩,⟨m,o⟩,_⟩:=Bd6 d;have u:=w.len;have t32:e.bytes.take 32=e.bytes:=bR (by omega);unfold Aa0 Y8;simp only[b9,Btl (Hq _ _),Bsu (Hq _ _),t32];rw[Au5 (w:=6) g b1 (by decide),Au5 (w:=1) (by omega) b4 (by decide),Au5 (w:=1) j b2 (by decide),Au5 (w:=2) m o (by decide),Au5 (w:=2) a3 b3 (by decide)]
theorem Bhw(w:e.Wf)(d:erB e=true):ofF e.kind (Y8 e)=(e,0):=by
 unfold ofF;rw[A3u w d];unfold D5;rw[aQ d];simp
theorem A55(w:e.Wf){An off As seq:Int}(h:(Jl e An off As seq).2=0):
 (Jl e An off As seq).1=⟨e.kind,An,off,As,seq,Y8 e⟩/\frB ⟨e.kind,An,off,As,seq,Y8 e⟩=true/\erB e=true/\Vh ⟨e.kind,An,off,As,seq,Y8 e⟩=(e,0):=by
 by_cases d:erB e=true/\frB ⟨e.kind,An,off,As,seq,(D5 e).1⟩=true/\e.first<=seq/\seq-e.count<e.first
 ·have hb:(D5 e).1=Y8 e:=by unfold D5;rw[aQ d.1]
  have g:Jl e An off As seq=(⟨e.kind,An,off,As,seq,Y8 e⟩,0):=by unfold Jl;rw[aQ d,hb]
  rw[hb]at d;refine⟨by rw[g],d.2.1,d.1,?_⟩;unfold Vh;simp only[Bhw w d.1,g];simp
 ·exfalso
  unfold Jl at h;rw[aM d]at h;exact absurd h (by decide)
end Go.Ev
