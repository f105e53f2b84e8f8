import Derived.Test.YtadnemjjlacolaaGreatXb
import Derived.Test.YtadnemjjlacolaaGreatXa
set_option linter.all false
namespace Go.Ev
open Go.Proofs
set_option maxRecDepth 100000
variable {K P a b i n q t off:Nat}{k:EV->R}{p out:List Nat}{h h':Aa}{v kind:Int}{x:EV}{op:Bool}
abbrev Nk(k:IntKind)(a:Nat):EV:=.int k (Int.ofNat a)
theorem wrap_u8(a:Nat):De .u8 (Int.ofNat a)=Int.ofNat (a%256):=by
 rw[Lc];rfl
theorem wrap_u32(a:Nat):De .u32 (Int.ofNat a)=Int.ofNat (a%4294967296):=by
 rw[Lc];rfl
theorem Aw4 {c:IntKind}:R6 .u8 (.int c (Int.ofNat a)) k=k (Nk .u8 (a%256)):=by
 rw[A0t,wrap_u8]
theorem Amk:Afi (bin TT .shr t) (.int .i64 (Int.ofNat a)) (.int .u64 8) k=k (Nk .i64 (a/256)):=by
 show k (.int .i64 (.ofNat (Nat.shiftRight a 8)))=_;have:Nat.shiftRight a 8=a/256:=fL a 8;rw[this]
theorem Asi {s:Nat}(hs:s<=32):Afi (bin TT .shr t) (.int .u32 (Int.ofNat a)) (.int .u64 (Int.ofNat s)) k=k (Nk .u32 (a/2^s)):=by
 show k (.int .u32 (.ofNat (Nat.shiftRight a (Ba (Nat.ble s 32) s 32))))=_;rw[aQ hs,Aj];have:Nat.shiftRight a s=a/2^s:=fL a s;rw[this]
theorem Bck(d:a<4294967296)(hb:b<4294967296):Afi (bin TT .xor t) (.int .u32 (Int.ofNat a)) (.int .u32 (Int.ofNat b)) k=k (Nk .u32 (a ^^^ b)):=by
 show k (.int .u32 (De .u32 (.ofNat (Nat.xor a b))))=_;rw[wrap_u32];have:Nat.xor a b<2^32:=dh (n:=32) d hb;rw[fN (by exact this)];rfl
theorem Bhc(d:a<256)(hb:b<256):Afi (bin TT .xor t) (.int .u8 (Int.ofNat a)) (.int .u8 (Int.ofNat b)) k=k (Nk .u8 (a ^^^ b)):=by
 show k (.int .u8 (De .u8 (.ofNat (Nat.xor a b))))=_;rw[wrap_u8];have:Nat.xor a b<2^8:=dh (n:=8) d hb;rw[fN (by exact this)];rfl
def wd:Nat->Nat->Nat
 | 0,_=>1
 | f+1,a=>if a/256=0 then 1 else wd f (a/256)+1
theorem Bng:∀(f a w:Nat),a<256^(f+1)->1<=w->(wd f a<=w↔a<256^w)
 | 0,a,w,h,hw=>by
  refine⟨fun _=>aK h (fK (by decide) (by omega)),fun _=>hw⟩
 | f+1,a,w,h,hw=>by
  unfold wd;by_cases h0:a/256=0
  ·rw[aH h0]
   refine⟨fun _=>?_,fun _=>hw⟩;have:a<256:=by omega
   exact aK this (by have:=fK (n:=256) (by decide) hw;simpa using this)
  ·rw[aF h0]
   have d:=Bng f (a/256) (w-1) (by rw[eL]at h;exact fJ (by rw[fT];exact h));by_cases g:w=1
   ·subst g
    refine⟨fun y=>?_,fun y=>?_⟩
    ·have:1<=wd f (a/256):=by cases f<;>unfold wd<;>(try split)<;>omega
     omega
    ·exfalso;apply h0;simp at y;omega
   ·have d:=d (by omega)
    obtain⟨v,rfl⟩:∃v,w=v+1:=⟨w-1,by omega⟩;rw[fZ]at d;rw[eL];refine⟨fun y=>?_,fun y=>?_⟩
    ·have:=d.1 (by omega)
     have:=Nat.div_lt_iff_lt_mul (k:=256) (x:=a) (y:=256^v) (by decide);omega
    ·have:=d.2 (fJ (by rw[fT];exact y))
     omega
theorem A89:∀(f m a n:Nat) (h:Aa),f<m->a<256^(f+1)->n+f<=100->f<=10 ->
 Lm K m (Nk .i64 a) (Nk .i64 n) h=Xf K (Nk .i64 (a/256^(wd f a-1))) (Nk .i64 (n+wd f a-1)) h:=by
 intro f;induction f with
 | zero=>
  intro m a n h hm d g j;obtain⟨m,rfl⟩:∃k,m=k+1:=⟨m-1,by omega⟩;have:a/256=0:=by simp at d;omega
  simp only[Lm,dr];rw[Amk,this];simp only[Nk,Ac];rw[show decide ((0:Int)<Int.ofNat 0)=false from rfl];simp only[Ab,wd,gE,Nat.pow_zero,Nat.div_one,fZ]
 | succ f o=>
  intro m a n h hm d g j;obtain⟨m,rfl⟩:∃k,m=k+1:=⟨m-1,by omega⟩;simp only[Lm,dr];rw[Amk];simp only[Nk,Ac];unfold wd;by_cases h0:a/256=0
  ·rw[aH h0,h0]
   rw[show decide ((0:Int)<Int.ofNat 0)=false from rfl];simp only[Ab,gE,Nat.pow_zero,Nat.div_one,fZ]
  ·rw[aF h0,show decide ((0:Int)<Int.ofNat (a/256))=true from aP (by show(0:Int)<((a/256:Nat):Int);omega)]
   simp only[Ab,Am2];rw[Amk];simp only[Nk,Ac];rw[show De .i64 (Int.ofNat n+1)=Int.ofNat (n+1)from Cq (by show _<=((n:Nat):Int)+1;omega) (by show((n:Nat):Int)+1<=_;omega)];have e:=o m (a/256) (n+1) h (by omega) (fJ (by rw[fT,<-eL];exact d)) (by omega) (by omega);rw[e];have hw:1<=wd f (a/256):=by cases f<;>unfold wd<;>(try split)<;>omega
   obtain⟨u,hu⟩:∃u,wd f (a/256)=u+1:=⟨wd f (a/256)-1,by omega⟩;rw[hu,fZ,show u+1+1-1=u+1 from rfl,Nat.pow_succ',eX,show n+1+(u+1)-1=n+(u+1+1)-1 by omega]
def Aez(a:Nat):Nat:=if 7<wd 7 a then 8 else wd 7 a
theorem A1c(g:a<9223372036854775808)(j:1000<K)(h:Aa):Vf K (.int .i64 (Int.ofNat a)) h=some (Nk .i64 (Aez a),h):=by
 simp only[Vf,dr];unfold Aez;have e:=A89 (K:=K) 7 K a 1 h (by omega) (Nat.lt_trans g (by decide)) (by decide) (by decide);have:(EV.int .i64 1)=Nk .i64 1:=rfl;rw[this,e];have hw:1<=wd 7 a:=by unfold wd;split<;>omega
 simp only[Xf,Nk,Ac];rw[show decide (Int.ofNat (a/256^(wd 7 a-1))<0)=false from aO (by show ¬(((a/256^(wd 7 a-1):Nat):Int)<0);exact Int.not_lt.2 (Int.natCast_nonneg _))];rw[show 1+wd 7 a-1=wd 7 a by omega];by_cases d:7<wd 7 a
 ·rw[show decide ((7:Int)<Int.ofNat (wd 7 a))=true from aP (by show(7:Int)<((wd 7 a:Nat):Int);omega),aH d]
  simp only[Ab,Xu];rfl
 ·rw[show decide ((7:Int)<Int.ofNat (wd 7 a))=false from aO (by show ¬((7:Int)<((wd 7 a:Nat):Int));omega),aF d]
  simp only[Ab,Xu,Amp]
theorem Bfx(g:1000<K)(h:Aa):Vf K (.int .i64 (Int.negSucc a)) h=some (I 8,h):=by
 obtain⟨m,rfl⟩:∃k,K=k+1:=⟨K-1,by omega⟩;simp only[Vf,Lm,dr];have e:∀k:EV->R,Afi (bin TT .shr 3) (.int .i64 (Int.negSucc a)) (.int .u64 8) k=k (.int .i64 ((Int.negSucc a).fdiv 256)):=fun k=>rfl
 have d:(Int.negSucc a).fdiv 256<0:=by
  rw[fI _ (by decide)];have:Int.negSucc a<0:=Int.negSucc_lt_zero a;omega
 rw[e];simp only[Ac];rw[show decide ((0:Int)<(Int.negSucc a).fdiv 256)=false from aO (by omega)];simp only[Ab,Xf,Ac];rw[show decide (Int.negSucc a<0)=true from aP (Int.negSucc_lt_zero a)];simp only[Ab,Xu,I]
theorem A1d {w:Nat}(d:a<9223372036854775808)(g:1<=w)(j:w<=7):Aez a<=w↔a<256^w:=by
 have:=Bng 7 a w (Nat.lt_trans d (by decide)) g;rw[<-this];unfold Aez;split<;>omega
def T2(w a:Nat):List Nat:=(List.range w).map fun i=>a/256^i%256
theorem Axk(w a:Nat):T2 (w+1) a=T2 w a++[a/256^w%256]:=by unfold T2;rw[cb,cS];rfl
theorem Gu(w a:Nat):(T2 w a).length=w:=by simp[T2]
theorem Ate(a b:List Nat):Bj (a++b)=Bj a++Bj b:=cS
theorem Bg(a:List Nat):(Bj a).length=a.length:=bZ _
structure A0m(h:Aa)(P t:Nat)(out:List Nat)(bad:Bool):Prop where
 Ow:∃s q,h.get P=some (.cells [s,.bool bad] t)/\Cj h s q 5 1 out.length (Bj out)/\(0<out.length->P<q)
theorem Abp(n:Int)(h:Aa):Xj K (I n) h=some (.bool (decide (1<=n/\n<=7)),h):=by
 simp only[Xj,I,Ac,Ab];by_cases d:1<=n
 ·simp only[d,aB,Ab,Ac,Abh,gG]
 ·simp only[d,aA,Ab,Abh,gF]
theorem Bin {w:Nat}{bad:Bool}(D:a<9223372036854775808)(hw:w<=7)(E:out.length<=60000)(h0:Aa)(F:P<h0.next):∀(m i:Nat) (h:Aa),w-i<m->i<=w->HB h->Ar (fun i=>P<=i) h0 h->A0m h P t (out++T2 i a) bad ->
 Ok (Iq K m (.ptr P 0) (Nk .i64 (a/256^i)) (I w) (I i) h) fun _ h'=>A0m h' P t (out++T2 w a) bad/\Ar (fun i=>P<=i) h0 h'/\HB h':=by
 intro m;induction m with
 | zero=>intro i h hm;omega
 | succ m A=>
  intro i h hm G hb c p;obtain⟨s,q,g,r,l⟩:=p.Ow;simp only[Iq,I,Ac,Ab];by_cases d:(i:Int)<w
  ·simp only[d,aB,Ab,Y6,Cs g rfl]
   rw[wrap_u8];have hlen:(out++T2 i a).length=out.length+i:=by rw[aG,Gu]
   refine Nu (z:=[.int .u8 0]) r hb rfl rfl rfl (by omega) (by omega) ?_;intro h2 B H c2;have C:¬(0<(out++T2 i a).length/\P=q):=fun y=>by have:=l y.1;omega
   have o:=c2.at hb g C;have u:=(c2.hb hb) _ _ o;refine Ok.st1 o rfl rfl (by show 0<2;decide) ?_;rw[Amk];simp only[Y9,I,Ac];rw[Cq,eX,<-eL];have c3:Ar (fun i=>P<=i) h (h2.put P (.cells ([s,EV.bool bad].set 0 (.slice (h.next+1) 0 ((out++T2 i a).length+1) ((out++T2 i a).length+1) true)) t)):=(c2.mono fun j hj=>by have:=l hj.1;show P<=j;omega).Aq (.inl (aE _)) u _;refine A (i+1) _ (by omega) (by omega) ((c2.hb hb).put u _) (c.trans c3) ?_;rw[Axk,<-cR];refine⟨_,h.next+1,Ae _ _ _,?_,fun _=>by have:=c.next;omega⟩;have e1:((out++T2 i a)++[a/256^i%256]).length=(out++T2 i a).length+1:=by rw[aG];rfl
   have e2:Bj ((out++T2 i a)++[a/256^i%256])=Bj (out++T2 i a)++EV.cells (Nk .u8 (a/256^i%256)):=by rw[Ate];rfl
   rw[e1,e2];refine B.frame fun _=>Af _ ?_
   have:=hb _ _ g;omega
  ·have:i=w:=by omega
   subst this;simp only[d,aA,Ab];exact .ret ⟨p,c,hb⟩
def fits(w:Nat)(v:Int):Bool:=decide (0<=v/\v<(256^w:Nat))
theorem Lh {w:Nat}{bad:Bool}(u:1000<K)(p:A0m h P t out bad)(hb:HB h)(B:out.length<=60000)(C:1<=w)(A:w<=7)(D : -9223372036854775808<=v/\v<=9223372036854775807):
 Ok (D7 K (.ptr P 0) (I w) (I v) h) fun _ h'=>A0m h' P t (if fits w v=true then out++T2 w v.toNat else out) (bad||!fits w v)/\Ar (fun i=>P<=i) h h'/\HB h':=by
 obtain⟨s,q,g,r,l⟩:=p.Ow;have j:=hb _ _ g;simp only[D7,dr];rw[Abp,aP ⟨by omega,by omega⟩];simp only[Ab,Ac];have no:fits w v=false->Ok (stE 1 (.ptr P 1) (.bool true) h fun h=>some (.tuple [],h)) fun _ h'=>A0m h' P t (if fits w v=true then out++T2 w v.toNat else out) (bad||!fits w v)/\Ar (fun i=>P<=i) h h'/\HB h':=by
  intro m;refine Ok.st1 g rfl rfl (by show 1<2;decide) ?_;refine .ret ⟨?_,(Ar.refl (S:=fun i=>P<=i) h).Aq (.inl (aE _)) j _,hb.put j _⟩;rw[m,aF (by simp),cu,Bool.or_true];exact⟨s,q,Ae _ _ _,r.frame fun y=>Af _ (by have:=l y;omega),l⟩
 cases v with
 | negSucc a=>
  unfold I;rw[Bfx u,As];simp only[I,Ac];rw[show decide ((w:Int)<8)=true from aP (by omega)];simp only[Ab,Oe];exact no (aO fun y=>absurd y.1 (by have:=Int.negSucc_lt_zero a;omega))
 | ofNat a=>
  have o:a<9223372036854775808:=by have:((a:Nat):Int)<=9223372036854775807:=D.2;omega
  unfold I;rw[A1c o u,As];have d:=A1d o C A;simp only[Nk,Ac];by_cases hw:Aez a<=w
  ·have m:fits w (Int.ofNat a)=true:=aP ⟨Int.natCast_nonneg a,by have:=d.1 hw;exact Int.ofNat_lt.2 this⟩
   rw[show decide ((w:Int)<Int.ofNat (Aez a))=false from aO (by show ¬(w:Int)<((Aez a:Nat):Int);omega)];simp only[Ab,Oe,Yq];have:=Bin (K:=K) (P:=P) (t:=t) (w:=w) (bad:=bad) o A B h j K 0 h (by omega) (cQ _) hb (Ar.refl _) (by simpa [T2]using p);rw[Nat.pow_zero,Nat.div_one]at this;rw[m,aH rfl,dM,Bool.or_false];exact this
  ·rw[show decide ((w:Int)<Int.ofNat (Aez a))=true from aP (by show(w:Int)<((Aez a:Nat):Int);omega)]
   simp only[Ab,Oe];exact no (aO fun y=>hw (d.2 (Int.ofNat_lt.1 y.2)))
theorem Atv{bad:Bool}{new:List Nat}(p:A0m h P t out bad)(hb:HB h)(D:out.length<=60000)(u:lenOf x=some n)(h0:0<n)(E:n<=5000)(A:Oq h 1 n x=some (Bj new))(m:new.length=n):
 Ok (Pw K (.ptr P 0) x h) fun _ h'=>A0m h' P t (out++new) bad/\Ar (fun i=>P<=i) h h'/\HB h':=by
 obtain⟨s,q,g,r,l⟩:=p.Ow;have F:=hb _ _ g;simp only[Pw,Ab,Cs g rfl];obtain⟨h2,e,B,G,c2⟩:=Yx r u h0 (by omega) (by omega) A (by rw[Bg,m,bW]);rw[e,As];have C:¬(0<out.length/\P=q):=fun y=>by have:=l y.1;omega
 have o:=c2.at hb g C;have d:=(c2.hb hb) _ _ o
 try simp only[Ab]
 refine Ok.st1 o rfl rfl (by show 0<2;decide) ?_;refine .ret ⟨⟨_,h.next,Ae _ _ _,?_,fun _=>by omega⟩,(c2.mono fun j hj=>by have:=l hj.1;show P<=j;omega).Aq (.inl (aE _)) d _,(c2.hb hb).put d _⟩;rw[aG,m,Ate];exact B.frame fun _=>Af _
structure Bs(h:Aa)(x:EV)(b off:Nat)(l:List Nat):Prop where
 Ow:∃r op o row,x=.slice b off l.length r op/\l.length<=r/\h.get b=some o/\rowOf o=some row/\off+l.length<=row.length/\(row.drop off).take l.length=Bj l
theorem Bs.frame{l:List Nat}(s:Bs h x b off l)(e:h'.get b=h.get b):Bs h' x b off l:=by
 obtain⟨r,op,o,row,e1,e0,e2,e3,e4,e5⟩:=s.Ow;exact⟨r,op,o,row,e1,e0,by rw[e];exact e2,e3,e4,e5⟩
theorem Bs.lt{l:List Nat}(s:Bs h x b off l)(hb:HB h):b<h.next:=by
 obtain⟨r,op,o,row,e1,e0,e2,e3,e4,e5⟩:=s.Ow;exact hb _ _ e2
theorem Bs.ext{l:List Nat}(s:Bs h x b off l)(hb:HB h)(c:Ext h h'):Bs h' x b off l:=s.frame (c.get _ (s.lt hb) id)
theorem Bs.lift{l:List Nat}(s:Bs h x b off l):Bs h.lift x b off l:=s.frame (By _ _)
theorem Bs.len{l:List Nat}(s:Bs h x b off l):lenOf x=some l.length:=by
 obtain⟨r,op,o,row,rfl,_⟩:=s.Ow;rfl
theorem Bs.H5{l:List Nat}(s:Bs h x b off l)(k:EV->R):Ev.H5 x k=k (I l.length):=by
 obtain⟨r,op,o,row,rfl,_⟩:=s.Ow;rfl
theorem Bs.cells{l:List Nat}(s:Bs h x b off l):Oq h 1 l.length x=some (Bj l):=by
 obtain⟨r,op,o,row,rfl,e0,e2,e3,e4,e5⟩:=s.Ow;show Ba (Nat.beq l.length 0) (some []) (Xy h b off (Nat.mul l.length 1))=_;rw[show Nat.mul l.length 1=l.length from bW _];have d:Mo row off l.length=some (Bj l):=by rw[E7 e4,e5]
 cases g:l with
 | nil=>rfl
 | cons a r=>
  rw[show Nat.beq (a::r).length 0=false from rfl,Bl];unfold Xy;rw[e2,<-g];cases o<;>first|(cases e3;done)|(cases e3;exact d)
theorem Bs.ix{l:List Nat}(s:Bs h x b off l)(d:i<l.length):(∀k:EV->R,Aac 1 x (.int .i64 (i:Int)) k=k (.ptr b (off+i)))/\(∀k:EV->R,Ez (.ptr b (off+i)) h k=k (Nk .u8 l[i])):=by
 obtain⟨r,op,o,row,rfl,e0,e2,e3,e4,e5⟩:=s.Ow;refine⟨fun k=>by rw[Nw d,bW],fun k=>?_⟩;rw[Cs e2 e3];have:row[off+i]? = some (Nk .u8 l[i]):=by
  have e5:=congrArg (fun z=>z[i]?) e5;simp only[eR,d,bI,dJ]at e5;rw[e5];unfold Bj;rw[bB,aD d];rfl
 rw[this];rfl
theorem Bs.take{l:List Nat}(s:Bs h x b off l)(j:n<=l.length):∃y,(∀k:EV->R,Ah3 1 x none (some (.int .i64 (n:Int))) none k=k y)/\Bs h y b off (l.take n):=by
 obtain⟨r,op,o,row,rfl,e0,e2,e3,e4,e5⟩:=s.Ow;have d:(l.take n).length=n:=by rw[b9,eH j]
 refine⟨EV.slice b off n r op,fun k=>?_,⟨r,op,o,row,by rw[d],by rw[d];omega,e2,e3,by rw[d];omega,?_⟩⟩
 ·have:slc (EV.slice b off l.length r op) 1 none (some (.int .i64 (n:Int))) none=some (EV.slice b off n r op):=by
   have g:bound (some (.int .i64 (n:Int))) r l.length=some n:=by
    show Ba (Nat.ble n r) (some n) none=_;rw[aQ (by omega),Aj]
   unfold slc;simp only[g];cases op with
   | true=>rfl
   | false=>
    show Ba (Nat.ble 0 r) (some (EV.slice b (Ba (Nat.beq r 0) off (Nat.add off (Nat.mul 0 1))) n r false)) none=_;rw[aQ (cQ _),Aj];have:Ba (Nat.beq r 0) off (Nat.add off (Nat.mul 0 1))=off:=by
     rw[show Nat.add off (Nat.mul 0 1)=off from rfl];cases Nat.beq r 0<;>rfl
    rw[this]
  unfold Ah3;rw[this];rfl
 ·rw[d]
  have:=congrArg (fun z=>z.take n) e5;simp only[List.take_take,eH j]at this;rw[this];unfold Bj;rw[List.map_take]
theorem Bs.drop{l:List Nat}{r:Nat}(s:Bs h (.slice b off l.length r op) b off l)(B:n<l.length):(∀k:EV->R,Ah3 1 (.slice b off l.length r op) (some (.int .i64 (n:Int))) none none k=k (.slice b (off+n) (l.length-n) (r-n) op))/\Bs h (.slice b (off+n) (l.length-n) (r-n) op) b (off+n) (l.drop n):=by
 obtain⟨C,m,o,row,e1,e0,e2,e3,e4,e5⟩:=s.Ow;injection e1 with _ _ _ u y;subst u y;have d:(l.drop n).length=l.length-n:=by rw[bT]
 refine⟨fun k=>?_,⟨r-n,op,o,row,by rw[d],by rw[d];omega,e2,e3,by rw[d];omega,?_⟩⟩
 ·have:slc (.slice b off l.length r op) 1 (some (.int .i64 (n:Int))) none none=some (.slice b (off+n) (l.length-n) (r-n) op):=by
   have g:bound (some (.int .i64 (n:Int))) l.length 0=some n:=by
    show Ba (Nat.ble n l.length) (some n) none=_;rw[aQ (by omega),Aj]
   have j:bound none r l.length=some l.length:=rfl;unfold slc;simp only[g,j];cases op with
   | true=>
    rw[Aj];cases n with
    | zero=>rfl
    | succ n=>
     rw[show Nat.beq (n+1) 0=false from rfl,Bl,aQ (by show n+1+1<=r;omega),Aj,show Nat.mul (n+1) 1=n+1 from bW _];rfl
   | false=>
    rw[Bl,aQ (by show n<=r;omega),Aj,show Nat.mul n 1=n from bW _];have:Nat.beq r n=false:=by
     cases A:Nat.beq r n with
     | false=>rfl
     | true=>have:=aJ A;omega
    rw[this,Bl];rfl
  unfold Ah3;rw[this];rfl
 ·have:=congrArg (fun z=>z.drop n) e5
  rw[d];simp only[List.drop_take,dZ]at this;rw[this];unfold Bj;rw[List.map_drop]
theorem Cj.bs{s:EV}{l:List Nat}(r:Cj h s q 5 1 l.length (Bj l))(d:0<l.length):Bs h s q 0 l:=by
 refine⟨l.length,true,_,Bj l,r.slice d,aE _,r.block d,rfl,by rw[Bg,bK];exact aE _,?_⟩;rw[dF,<-Bg,cO]
def Bpy:EV->Nat
 | .int _ x=>x.toNat
 | _=>0
noncomputable def A8j:List Nat:=Bi.map Bpy
theorem Bf1:Bi=A8j.map (Nk .u32):=by kernel_rfl
theorem Bou:A8j.all (fun n=>Nat.blt n 4294967296)=true:=by kernel_rfl
theorem Bl1:A8j.length=256:=by kernel_rfl
noncomputable def A1a(r c:Nat):Nat:=(r/256) ^^^ (A8j[(r%256) ^^^ c]?).getD 0
theorem A86(g:i<256):Bi[i]? = some (Nk .u32 ((A8j[i]?).getD 0))/\(A8j[i]?).getD 0<4294967296:=by
 have d:i<A8j.length:=by rw[Bl1];exact g
 rw[Bf1,bB,aD d];refine⟨rfl,?_⟩;have:=dN.1 Bou _ (a9 d);exact bG this
theorem Blj {r c:Nat}(j:r<4294967296)(d:c<256):A1a r c<4294967296:=by
 unfold A1a;have g:(r%256) ^^^ c<2^8:=dh (n:=8) (Nat.mod_lt _ (by decide)) d;exact dh (n:=32) (by show r/256<4294967296;omega) (A86 g).2
theorem Bms{r c:Nat}(u:r<4294967296)(g:c<256):Ok (Xm K Vl (Nk .u32 r) (Nk .u8 c) h) fun v h'=>v=Nk .u32 (A1a r c)/\Ext h h':=by
 unfold Vl;simp only[Xm,Ab];obtain⟨y,j,m,o,_⟩:=nW h (.cells Bi 96);rw[j];rw[show ∀k:EV->R,Afi (bin TT .shr 94) (Nk .u32 r) (.int .u64 8) k=k (Nk .u32 (r/256))from fun k=>Asi (s:=8) (by decide)];have d:(r%256) ^^^ c<256:=dh (n:=8) (Nat.mod_lt _ (by decide)) g;rw[wrap_u8,Bhc (Nat.mod_lt _ (by decide)) g,show ∀k:EV->R,Auo 256 1 (.ptr h.next 0) (Nk .u8 ((r%256) ^^^ c)) k=k (.ptr h.next (0+((r%256) ^^^ c)*1))from fun k=>Ac7 d];rw[Cs o rfl,bK,bW,(A86 d).1];simp only[Gx];rw[Bck (by omega) (A86 d).2];exact .ret ⟨rfl,m⟩
noncomputable def Avz(r:Nat)(l:List Nat):Nat:=l.foldl A1a r
theorem Axa:∀(l:List Nat) (r:Nat),r<4294967296->(∀b∈l,b<256)->Avz r l<4294967296
 | [],r,d,_=>d
 | c::l,r,d,g=>Axa l (A1a r c) (Blj d (g c (aW ..))) fun b hb=>g b (aR _ hb)
theorem Bc6 {T:Nat}{l:List Nat}(u:∀b∈l,b<256)(D:l.length<=5000){r0:Nat}(h0:r0<4294967296):∀(m i:Nat) (h:Aa),l.length-i<m->i<=l.length->HB h->h.get T=some (.cells Bi 96)->Bs h x b off l ->
 Ok (Mv K m (.ptr T 0) (Nk .u32 (Avz r0 (l.take i))) x (I l.length) (I i) h) fun v h'=>v=Nk .u32 (Avz r0 l)/\Ext h h':=by
 intro m;induction m with
 | zero=>intro i h hm;omega
 | succ m A=>
  intro i h hm E hb y s;simp only[Mv,I,Ac,Ab];by_cases g:(i:Int)<l.length
  ·have d:i<l.length:=by omega
   obtain⟨e1,e2⟩:=s.ix d;simp only[g,aB,Ab,Afj,e1,e2,Cw y rfl];rw[Ak Qx];simp only[Gx];have o:∀b∈l.take i,b<256:=fun b hb=>u b (bc hb)
   refine(Bms (K:=K) (Axa _ _ h0 o) (u _ (a9 d))).Ap ?_;rintro _ B ⟨rfl,j⟩;simp only[Ahk,I,Ac];rw[Cq];have e:A1a (Avz r0 (l.take i)) l[i]=Avz r0 (l.take (i+1)):=by
    unfold Avz;rw[fH,List.foldl_append,aD d];rfl
   rw[e];refine(A (i+1) B (by omega) (by omega) (j.hb hb) (j.at hb y) (s.ext hb j)).mono ?_;rintro v h' ⟨e,C⟩;exact⟨e,j.trans C⟩
  ·have:i=l.length:=by omega
   subst this;simp only[g,aA,Ab,Ahh,cO];exact .ret ⟨rfl,Ar.refl _⟩
noncomputable def E6(l:List Nat):Nat:=Avz 4294967295 l ^^^ 4294967295
theorem A2j {l:List Nat}(d:∀b∈l,b<256):E6 l<4294967296:=dh (n:=32) (Axa l _ (by decide) d) (by decide)
theorem A2m{l:List Nat}(A:10000<K)(s:Bs h x b off l)(hb:HB h)(g:∀b∈l,b<256)(j:l.length<=5000):Ok (Np K Vl x h) fun v h'=>v=Nk .u32 (E6 l)/\Ext h h':=by
 unfold Vl;simp only[Np,Ab];obtain⟨m,o,d,u,_⟩:=nW h (.cells Bi 96);rw[o];have s1:=s.ext hb d;simp only[Adz,s1.H5,dr];refine(Bc6 (K:=K) g j (r0:=4294967295) (by decide) K 0 m (by omega) (cQ _) (d.hb hb) u s1).Ap ?_;rintro _ h2 ⟨rfl,y⟩;rw[show ∀k:EV->R,Afi (bin TT .xor 94) (Nk .u32 (Avz 4294967295 l)) (.int .u32 4294967295) k=k (Nk .u32 (E6 l))from fun k=>Bck (b:=4294967295) (Axa l _ (by decide) g) (by decide)];exact .ret ⟨rfl,d.trans y⟩
theorem Cj.cells{s:EV}{l:List Nat}(r:Cj h s q 5 1 l.length (Bj l)):Oq h 1 l.length s=some (Bj l):=by
 rcases dC l.length with h0|hp
 ·have:l = []:=cM.1 h0
  subst this;rcases r with⟨_,_,rfl|⟨b,rfl⟩⟩|⟨y,_⟩
  ·rfl
  ·rfl
  ·exact absurd y (bO _)
 ·exact(r.bs hp).cells
theorem Avb{s:EV}(g:h.get P=some (.cells [s,.bool false] t))(r:Cj h s q 5 1 out.length (Bj out))(hb:HB h)(B:out.length<=60000):
 Ok (Nr K (.ptr P 0) h) fun v h'=>∃y q',v=.tuple [y,I 0]/\Cj h' y q' 5 1 out.length (Bj out)/\Ext h h'/\HB h'/\(0<out.length->h.next<=q'):=by
 simp only[Nr,Ab,Cs g rfl,Ajb];rw[show Bx [(.int .u8 0)] 5 1 0 [] h=some (.slice h.next 0 0 0 false,h.new (.cells [] 5))from rfl,As];have d:Ext h (h.new (.cells [] 5)):=Ar.new _ _;have m:=d.at hb g;have j:Cj (h.new (.cells [] 5)) s q 5 1 out.length (Bj out):=r.frame fun y=>d.get _ (hb _ _ (r.block y)) id
 generalize h.new (.cells [] 5)=C at d m j⊢;simp only[Ab,Cs m rfl];refine(Wg (b:=h.next) (e:=5) j.len (by omega) j.cells (by rw[Bg,bW]) 0).Ap ?_;rintro v h2 ⟨q',u,o,A⟩;refine .ret ⟨v,q',rfl,u,d.trans o,(d.trans o).hb hb,fun y=>?_⟩;have:=A y;have:=d.next
 omega
theorem Azb(p:A0m h P t out false)(hb:HB h)(d:out.length<=60000):
 Ok (Nr K (.ptr P 0) h) fun v h'=>∃y q',v=.tuple [y,I 0]/\Cj h' y q' 5 1 out.length (Bj out)/\Ext h h'/\HB h'/\(0<out.length->h.next<=q'):=by
 obtain⟨s,q,g,r,_⟩:=p.Ow;exact Avb g r hb d
theorem Bp9(s:Nat):T2 4 s = [s%256,s/256%256,s/65536%256,s/16777216%256]:=by
 simp[T2,cb]
theorem Bnu(a b c d:Int)(h:Aa):Bx [(.int .u8 0)] 5 1 4 [(0,.int .u8 a),(1,.int .u8 b),(2,.int .u8 c),(3,.int .u8 d)] h=some (.slice h.next 0 4 4 false,h.new (.cells [.int .u8 a,.int .u8 b,.int .u8 c,.int .u8 d] 5)):=rfl
theorem Bmg{l:List Nat}(O:10000<K)(s:Bs h x b off l)(hb:HB h)(Q:∀b∈l,b<256)(h0:0<l.length)(S:l.length<=5000):
 Ok (W9 K Vl x h) fun v h'=>∃q',Cj h' v q' 5 1 (l++T2 4 (E6 l)).length (Bj (l++T2 4 (E6 l)))/\Ext h h'/\HB h'/\h.next<=q':=by
 unfold Vl;simp only[W9,Ab];obtain⟨h1,T,g,U,_⟩:=nW h (.cells Bi 96);rw[T];have d:=g.hb hb;rw[Cw U rfl,Ak Qx];simp only[Gx];refine(A2m (K:=K) O (s.ext hb g) d Q S).Ap ?_;rintro _ h2 ⟨rfl,m⟩;have o:=m.hb d;have s2:=(s.ext hb g).ext d m;rw[show Bx [(.int .u8 0)] 5 1 0 [] h2=some (.slice h2.next 0 0 0 false,h2.new (.cells [] 5))from rfl,As];have A:Ext h2 (h2.new (.cells [] 5)):=Ar.new _ _;have C:=s2.ext o A;have n3:(h2.new (.cells [] 5)).next=h2.next+1:=rfl
 generalize h2.new (.cells [] 5)=h3 at A C n3⊢;have D:=A.hb o;refine(Wg (b:=h2.next) (e:=5) C.len (by omega) C.cells (by rw[Bg,bW]) 0).Ap ?_;rintro v h4 ⟨q',J,E,V⟩;have F:=E.hb D;rw[show ∀k:EV->R,R6 .u8 (Nk .u32 (E6 l)) k=k (Nk .u8 (E6 l%256))from fun k=>Aw4];rw[show ∀k:EV->R,Afi (bin TT .shr 94) (Nk .u32 (E6 l)) (.int .u64 8) k=k (Nk .u32 (E6 l/256))from fun k=>Asi (s:=8) (by decide)];rw[show ∀k:EV->R,R6 .u8 (Nk .u32 (E6 l/256)) k=k (Nk .u8 (E6 l/256%256))from fun k=>Aw4];rw[show ∀k:EV->R,Afi (bin TT .shr 94) (Nk .u32 (E6 l)) (.int .u64 16) k=k (Nk .u32 (E6 l/65536))from fun k=>Asi (s:=16) (by decide)];rw[show ∀k:EV->R,R6 .u8 (Nk .u32 (E6 l/65536)) k=k (Nk .u8 (E6 l/65536%256))from fun k=>Aw4];rw[show ∀k:EV->R,Afi (bin TT .shr 94) (Nk .u32 (E6 l)) (.int .u64 24) k=k (Nk .u32 (E6 l/16777216))from fun k=>Asi (s:=24) (by decide)];rw[show ∀k:EV->R,R6 .u8 (Nk .u32 (E6 l/16777216)) k=k (Nk .u8 (E6 l/16777216%256))from fun k=>Aw4];rw[Bnu,As];have B:Ext h4 (h4.new (.cells (Bj (T2 4 (E6 l))) 5)):=Ar.new _ _;have e5:Bj (T2 4 (E6 l)) = [Nk .u8 (E6 l%256),Nk .u8 (E6 l/256%256),Nk .u8 (E6 l/65536%256),Nk .u8 (E6 l/16777216%256)]:=by rw[Bp9];rfl
 rw[e5]at B;have L:Cj (h4.new (.cells [Nk .u8 (E6 l%256),Nk .u8 (E6 l/256%256),Nk .u8 (E6 l/65536%256),Nk .u8 (E6 l/16777216%256)] 5)) v q' 5 1 l.length (Bj l):=J.frame fun y=>B.get _ (F _ _ (J.block y)) id
 have M:(h4.new (.cells [Nk .u8 (E6 l%256),Nk .u8 (E6 l/256%256),Nk .u8 (E6 l/65536%256),Nk .u8 (E6 l/16777216%256)] 5)).get h4.next=some (.cells [Nk .u8 (E6 l%256),Nk .u8 (E6 l/256%256),Nk .u8 (E6 l/65536%256),Nk .u8 (E6 l/16777216%256)] 5):=Ad _ _
 have W:(h4.new (.cells [Nk .u8 (E6 l%256),Nk .u8 (E6 l/256%256),Nk .u8 (E6 l/65536%256),Nk .u8 (E6 l/16777216%256)] 5)).next=h4.next+1:=rfl
 generalize h4.new (.cells [Nk .u8 (E6 l%256),Nk .u8 (E6 l/256%256),Nk .u8 (E6 l/65536%256),Nk .u8 (E6 l/16777216%256)] 5)=G at B L M W⊢;have H:Oq G 1 4 (.slice h4.next 0 4 4 false)=some (Bj (T2 4 (E6 l))):=by
  show Xy G h4.next 0 4=_
  unfold Xy Ash;rw[M,e5];rfl
 obtain⟨X,e6,Y,n6,Z⟩:=Yx L rfl (by decide) (by decide) (by omega) H (by rw[Bg,Gu]);rw[e6,As];have hq:=V h0;have u:Ext h X:=by
  refine((g.trans m).trans ((A.trans E).trans B)).then Z fun j hj aa=>?_
  have:=g.next;have:=m.next;have:=hj.2;omega
 refine .ret ⟨G.next,?_,u,u.hb hb,?_⟩
 ·rw[Ate,aG,Gu];exact Y
 ·have:=g.next;have:=m.next;have:=E.next;omega
theorem Boi(k:EV->R):Kk Ajg (bin TT .neq t) (Nk .u8 a) (Nk .u8 b) k=k (.bool (decide (¬a=b))):=by
 show k (Ajg .u8 (Int.ofNat a) (Int.ofNat b))=_;rw[Ba5,Axc,Asu];exact congrArg (fun b=>k (.bool b)) (eI.2 (not_congr ⟨Int.ofNat.inj,congrArg _⟩))
noncomputable def Azi(l:List Nat):Bool:=decide (T2 4 (E6 (l.take (l.length-4)))=l.drop (l.length-4))
def Bnh(h:Aa)(l:List Nat)(v:EV)(h':Aa):Prop:=Ext h h'/\HB h'/\((Azi l=false/\v=.tuple [.Ao,I 11])\/(Azi l=true/\∃y q',v=.tuple [y,I 0]/\Cj h' y q' 5 1 (l.take (l.length-4)).length (Bj (l.take (l.length-4)))/\h.next<=q'))
theorem Bfs {y:EV}{g:Nat}{l:List Nat}(h4:4<l.length)(W:l.length<=5000)(M:∀b∈l,b<256)(h0:Aa):∀(m i:Nat) (h:Aa),4-i<m->i<=4->HB h->Ext h0 h->Bs h x b off l->Bs h y b g (l.drop (l.length-4))->(∀j (hj:j<i),(l.drop (l.length-4))[j]? = some (E6 (l.take (l.length-4))/256^j%256)) ->
 Ok (Ms K m x (I ((l.length-4:Nat):Int)) (Nk .u32 (E6 (l.take (l.length-4))/256^i)) y (I 4) (I i) h) (Bnh h0 l):=by
 intro m;have hd:(l.drop (l.length-4)).length=4:=by rw[bT];omega
 have hs:=A2j (l:=l.take (l.length-4)) fun b hb=>M b (bc hb)
 induction m with
 | zero=>intro i h hm;omega
 | succ m O=>
  intro i h hm X hb A F G hj;simp only[Ms,I,Ac,Ab];by_cases o:(i:Int)<4
  ·have d:i<(l.drop (l.length-4)).length:=by omega
   obtain⟨e1,e2⟩:=G.ix d;simp only[o,aB,Ab,Agz,e1,e2];rw[wrap_u8];rw[Boi];by_cases B:(l.drop (l.length-4))[i]=E6 (l.take (l.length-4))/256^i%256
   ·simp only[B,aC,aA,Ab,Agh]
    rw[show ∀k:EV->R,Afi (bin TT .shr 94) (Nk .u32 (E6 (l.take (l.length-4))/256^i)) (.int .u64 8) k=k (Nk .u32 (E6 (l.take (l.length-4))/256^i/256))from fun k=>Asi (s:=8) (by decide)];simp only[Af9,I,Ac];rw[Cq,eX,<-eL];refine O (i+1) h (by omega) (by omega) hb A F G fun j Q=>?_
    by_cases D:j=i
    ·subst D;rw[aD d,B]
    ·exact hj j (by omega)
   ·simp only[B,aN,aB,Ab]
    refine .ret ⟨A,hb,.inl ⟨aO fun y=>B ?_,rfl⟩⟩;have:=congrArg (fun z=>z[i]?) y;simp only[T2]at this;rw[aD d,bB,cJ (by omega)]at this;exact(fW this).symm
  ·have:i=4:=by omega
   subst this;simp only[o,aA,Ab,Afs];have S:Azi l=true:=aP (by
    apply dW;intro j;by_cases u:j<4
    ·rw[hj j u];unfold T2;rw[bB,cJ u];rfl
    ·rw[bh (by rw[Gu];omega),bh (by omega)])
   rw[show Bx [(.int .u8 0)] 5 1 0 [] h=some (.slice h.next 0 0 0 false,h.new (.cells [] 5))from rfl,As];have C:Ext h (h.new (.cells [] 5)):=Ar.new _ _;have H:=F.ext hb C;have n3:(h.new (.cells [] 5)).next=h.next+1:=rfl
   generalize h.new (.cells [] 5)=Y at C H n3⊢;have E:=C.hb hb;obtain⟨w,e3,J⟩:=H.take (n:=l.length-4) (by omega);rw[e3];refine(Wg (b:=h.next) (e:=5) J.len (by rw[b9];omega) J.cells (by rw[Bg,bW]) 0).Ap ?_;rintro v T ⟨q',U,L,V⟩;refine .ret ⟨A.trans (C.trans L),L.hb E,.inr ⟨S,v,q',rfl,U,?_⟩⟩;have:=V (by rw[b9];omega);have:=A.next
   omega
theorem Bmc{r:Nat}{l:List Nat}(A:10000<K)(s:Bs h (.slice b off l.length r op) b off l)(hb:HB h)(u:∀b∈l,b<256)(h4:4<l.length)(B:l.length<=5000):
 Ok (Wu K Vl (.slice b off l.length r op) h) (Bnh h l):=by
 unfold Vl;simp only[Wu,Ab];obtain⟨H,C,m,y,_⟩:=nW h (.cells Bi 96);rw[C];have d:=m.hb hb;have s1:=s.ext hb m;have D:=d _ _ y;simp only[Ac];rw[Cq,show(l.length:Int)-4=((l.length-4:Nat):Int) by omega,show decide (((l.length-4:Nat):Int)<0)=false from aO (by omega)];simp only[Ab,Ag1,Cm D,Au,Cw y rfl,Ak Qx];obtain⟨w,e3,E⟩:=s1.take (n:=l.length-4) (by omega);rw[e3];refine Ok.bE (A2m (K:=K) A E.lift (Dg d) (fun b hb=>u b (bc hb)) (by rw[b9];omega)) (fun _ _ p=>p.2) ?_;rintro _ h2 F ⟨rfl,_⟩ sm g;have o:=g.hb d;obtain⟨e5,G⟩:=(s1.ext d g).drop (n:=l.length-4) (by omega);rw[e5];simp only[Ab];have:=Bfs (K:=K) (x:=.slice b off l.length r op) h4 B u h K 0 F (by omega) (by decide) o (m.trans g) (s1.ext d g) G (fun j hj=>absurd hj (bm _));rw[Nat.pow_zero,Nat.div_one]at this;rw[show l.length-(l.length-4)=4 by omega]at this⊢;exact this
structure Rd(h:Aa)(R q off:Nat)(l:List Nat):Prop where
 Ow:∃s,h.get R=some (.cells [s,.bool false] 231)/\lenOf s=some l.length/\(0<l.length->s=.slice q off l.length l.length true/\Bs h s q off l)
 ne:q<R
theorem Rd.ext{R:Nat}{l:List Nat}(d:Rd h R q off l)(hb:HB h)(c:Ext h h'):Rd h' R q off l:=by
 obtain⟨s,g,e,f⟩:=d.Ow;exact⟨⟨s,c.at hb g,e,fun y=>⟨(f y).1,(f y).2.ext hb c⟩⟩,d.ne⟩
theorem Asx{l:List Nat}(s:Bs h x b off l)(hb:HB h)(h0:0<l.length)(C:l.length<=5000):
 Ok (Ajj K x h) fun v h'=>∃R q,v=.ptr R 0/\Rd h' R q 0 l/\Ext h h'/\HB h'/\h.next<=q:=by
 simp only[Ajj,dr];rw[show Bx [(.int .u8 0)] 5 1 0 [] h=some (.slice h.next 0 0 0 false,h.new (.cells [] 5))from rfl,As];have g:Ext h (h.new (.cells [] 5)):=Ar.new _ _;have s1:=s.ext hb g;generalize h.new (.cells [] 5)=D at g s1⊢;have j:=g.hb hb;refine(Wg (b:=h.next) (e:=5) s1.len (by omega) s1.cells (by rw[Bg,bW]) 0).Ap ?_;rintro v h2 ⟨q',m,y,A⟩;have d:=y.hb j;have o:=m.slice h0;subst o;rw[Ax (l:=[.slice q' 0 l.length l.length true,.bool false]) rfl];simp only[Ab];have u:Ext h2 (h2.new (.cells [.slice q' 0 l.length l.length true,.bool false] 231)):=Ar.new _ _;have B:=(m.bs h0).ext d u;refine .ret ⟨h2.next,q',rfl,⟨⟨_,Ad _ _,rfl,fun _=>⟨rfl,B⟩⟩,d _ _ (m.block h0)⟩,g.trans (y.trans u),u.hb d,?_⟩;have:=A h0;have:=g.next
 omega
theorem A57{R:Nat}{l:List Nat}(d:Rd h R q off l)(hb:HB h)(h0:0<n)(A:n<=l.length):
 Ok (Jz K (.ptr R 0) (I n) h) fun v h'=>Bs h' v q off (l.take n)/\Rd h' R q (off+n) (l.drop n)/\Ar (fun i=>i=R) h h'/\HB h':=by
 obtain⟨s,g,e,f⟩:=d.Ow;obtain⟨rfl,s1⟩:=f (by omega);have u:=hb _ _ g;have B:R≠q:=by have:=d.ne;omega
 simp only[Jz,Ab,Cs g rfl,Ac,I];rw[show decide ((n:Int)<0)=false from aO (by omega)];simp only[Ab,Zm,Ac,Cs g rfl];rw[show decide ((l.length:Int)<(n:Int))=false from aO (by omega)];simp only[Ab,Aaf,Aaj,Cs g rfl];have e1:∀k:EV->Go.Ev.R,Ah3 1 (.slice q off l.length l.length true) none (some (.int .i64 (n:Int))) (some (.int .i64 (n:Int))) k=k (.slice q off n n false):=fun k=>by
  have:slc (.slice q off l.length l.length true) 1 none (some (.int .i64 (n:Int))) (some (.int .i64 (n:Int)))=some (.slice q off n n false):=by
   have b1:bound (some (.int .i64 (n:Int))) l.length 0=some n:=by
    show Ba (Nat.ble n l.length) (some n) none=_;rw[aQ A,Aj]
   have b2:bound (some (.int .i64 (n:Int))) n 0=some n:=by
    show Ba (Nat.ble n n) (some n) none=_;rw[aQ (aE _),Aj]
   unfold slc;simp only[b1,b2];show some (EV.slice q (Ba (Nat.beq n 0) off (Nat.add off (Nat.mul 0 1))) n n false)=_;rw[show Nat.add off (Nat.mul 0 1)=off from rfl];cases Nat.beq n 0<;>rfl
  unfold Ah3;rw[this];rfl
 rw[e1];obtain⟨L,G,o,row,f1,f0,f2,f3,f4,f5⟩:=s1.Ow;have j:(l.take n).length=n:=by rw[b9,eH A]
 have m:(l.drop n).length=l.length-n:=bT;have F:Bs h (.slice q off n n false) q off (l.take n):=by
  refine⟨n,false,o,row,by rw[j],by rw[j];exact aE _,f2,f3,by rw[j];omega,?_⟩;rw[j];have:=congrArg (fun z=>z.take n) f5;simp only[List.take_take,eH A]at this;rw[this];unfold Bj;rw[List.map_take]
 have put:∀w:EV,(h.put R (.cells [w,.bool false] 231)).get q=h.get q:=fun w=>Af _ B
 rcases cU n l.length with C|H
 ·obtain⟨e2,s2⟩:=s1.drop C
  rw[e2];refine Ok.st1 g rfl rfl (by show 0<2;decide) ?_;refine .ret ⟨F.frame (put _),⟨⟨_,Ae _ _ _,by rw[m];rfl,fun _=>⟨by rw[m],s2.frame (put _)⟩⟩,d.ne⟩,(Ar.refl (S:=fun i=>i=R) h).Aq (.inl rfl) u _,hb.put u _⟩
 ·have D:n=l.length:=by omega
  subst D;have e2:∀k:EV->Go.Ev.R,Ah3 1 (.slice q off l.length l.length true) (some (.int .i64 (l.length:Int))) none none k=k (.tail q (off+l.length) off):=fun k=>by
   have:slc (.slice q off l.length l.length true) 1 (some (.int .i64 (l.length:Int))) none none=some (.tail q (off+l.length) off):=by
    have b1:bound (some (.int .i64 (l.length:Int))) l.length 0=some l.length:=by
     show Ba (Nat.ble l.length l.length) (some l.length) none=_;rw[aQ (aE _),Aj]
    have b2:bound none l.length l.length=some l.length:=rfl;unfold slc;simp only[b1,b2];rw[Aj];have z1:Nat.beq l.length 0=false:=by
     cases E:Nat.beq l.length 0 with
     | false=>rfl
     | true=>have:=aJ E;omega
    have J:Nat.ble (Nat.succ l.length) l.length=false:=by
     cases E:Nat.ble (Nat.succ l.length) l.length with
     | false=>rfl
     | true=>have:=bG E;omega
    rw[z1,Bl,J,Bl,cK,Aj,Aj,show Nat.mul l.length 1=l.length from bW _];rfl
   unfold Ah3;rw[this];rfl
  rw[e2];refine Ok.st1 g rfl rfl (by show 0<2;decide) ?_;refine .ret ⟨F.frame (put _),⟨⟨_,Ae _ _ _,by rw[m,gE];rfl,fun y=>by rw[m,gE]at y;exact absurd y (bO _)⟩,d.ne⟩,(Ar.refl (S:=fun i=>i=R) h).Aq (.inl rfl) u _,hb.put u _⟩
def Vq:List Nat->Nat
 | []=>0
 | b::r=>b+256*Vq r
theorem A38:∀(a:List Nat) (b:Nat),Vq (a++[b])=Vq a+256^a.length*b
 | [],b=>by simp[Vq]
 | x::a,b=>by
  have:=A38 a b;simp only[List.cons_append,Vq,this,bF,eL];rw[Nat.mul_add,<-Nat.add_assoc,fT (256^a.length) 256,Nat.mul_assoc]
theorem Bai:∀(a:List Nat),(∀b∈a,b<256)->Vq a<256^a.length
 | [],_=>by simp[Vq]
 | x::a,h=>by
  have d:=h x (aW ..);have h2:=Bai a fun b hb=>h b (aR _ hb)
  simp only[Vq,bF,eL];omega
theorem wrap_u64(a:Nat):De .u64 (Int.ofNat a)=Int.ofNat (a%18446744073709551616):=by
 rw[Lc];rfl
theorem Bkr {s:Nat}(hs:s<=64)(hb:a*2^s<9223372036854775808){k:EV->Go.Ev.R}:Afi (bin TT .shl t) (.int .i64 (Int.ofNat a)) (.int .u64 (Int.ofNat s)) k=k (Nk .i64 (a*2^s)):=by
 show k (.int .i64 (De .i64 (Int.mul (.ofNat a) (.ofNat (Nat.pow 2 (Ba (Nat.ble s 64) s 64))))))=_;rw[aQ hs,Aj];have:Int.mul (.ofNat a) (.ofNat (Nat.pow 2 s))=((a*2^s:Nat):Int):=rfl;rw[this,Cq];rfl
theorem Bo3(h:a||| b<9223372036854775808){k:EV->Go.Ev.R}:Afi (bin TT .or t) (.int .i64 (Int.ofNat a)) (.int .i64 (Int.ofNat b)) k=k (Nk .i64 (a||| b)):=by
 show k (.int .i64 (De .i64 (.ofNat (Nat.lor a b))))=_;have:Int.ofNat (Nat.lor a b)=((a||| b:Nat):Int):=rfl;rw[this,Cq];rfl
theorem Bj3{l:List Nat}(A:∀b∈l,b<256)(E:l.length<=7):∀(m i:Nat) (h:Aa),l.length-i<m->i<=l.length->Bs h x b off l ->
 Ko K m (Nk .i64 (Vq (l.take i))) x (I l.length) (I i) h=some (Nk .i64 (Vq l),h):=by
 intro m;induction m with
 | zero=>intro i h hm;omega
 | succ m C=>
  intro i h hm D s;simp only[Ko,I,Ac,Ab];by_cases j:(i:Int)<l.length
  ·have d:i<l.length:=by omega
   obtain⟨e1,e2⟩:=s.ix d;have hb:=A _ (a9 d);simp only[j,aB,Ab,Acy,e1,e2,Ac];have hp:(256:Nat)^i=2^(8*i):=by rw[Nat.pow_mul]
   have g:(256:Nat)^i<=256^6:=fK (by decide) (by omega);have g:(256:Nat)^i<=281474976710656:=g;have hmul:l[i]*256^i<=255*281474976710656:=gA (by omega) g;rw[show De .i64 (Int.ofNat l[i])=Int.ofNat l[i]from Cq (by show _<=((l[i]:Nat):Int);omega) (by show((l[i]:Nat):Int)<=_;omega)];rw[show(8:Int)*(i:Int)=((8*i:Nat):Int) by omega,Cq];rw[show De .u64 ((8*i:Nat):Int)=Int.ofNat (8*i)from by have:=wrap_u64 (8*i);rw[fN (by omega)]at this;exact this];rw[Bkr (by omega) (by rw[<-hp];omega)];have B:(l.take i).length=i:=by rw[b9,eH D]
   have o:Vq (l.take i)<2^(8*i):=by
    have:=Bai (l.take i) fun b hb=>A b (bc hb)
    rw[B,hp]at this;exact this
   have u:Vq (l.take i)||| l[i]*2^(8*i)=Vq (l.take (i+1)):=by
    rw[fH,aD d];show _=Vq (l.take i++[l[i]]);rw[A38,B,Nat.or_comm,fT l[i],<-Nat.two_pow_add_eq_or_of_lt o,hp,Nat.add_comm]
   have y:Vq (l.take (i+1))<9223372036854775808:=by
    have:=Bai (l.take (i+1)) fun b hb=>A b (bc hb)
    have h2:(256:Nat)^(l.take (i+1)).length<=256^7:=fK (by decide) (by rw[b9];omega);have F:(256:Nat)^7=72057594037927936:=by decide
    omega
   rw[Bo3 (by rw[u];exact y),u];simp only[Abu,I,Ac];rw[Cq];exact C (i+1) h (by omega) (by omega) s
  ·have:i=l.length:=by omega
   subst this;simp only[j,aA,Ab,Ab4,cO]
theorem Ad6{R w:Nat}{l:List Nat}(d:Rd h R q off l)(hb:HB h)(u:1000<K)(m:1<=w)(y:w<=7)(j:w<=l.length)(o:∀b∈l,b<256):
 Ok (Iv K (.ptr R 0) (I w) h) fun v h'=>v=Nk .i64 (Vq (l.take w))/\Rd h' R q (off+w) (l.drop w)/\Ar (fun i=>i=R) h h'/\HB h':=by
 simp only[Iv,dr];rw[Abp,aP ⟨by omega,by omega⟩];simp only[Ab,Abt];refine(A57 (K:=K) d hb m j).Ap ?_;rintro v h2 ⟨s,d2,c2,g⟩;rw[s.H5];have A:(l.take w).length=w:=by rw[b9,eH j]
 have:=Bj3 (K:=K) (l:=l.take w) (fun b hb=>o b (bc hb)) (by omega) K 0 h2 (by omega) (cQ _) s;rw[show EV.int .i64 0=Nk .i64 (Vq ((l.take w).take 0))from rfl];exact⟨_,_,this,rfl,d2,c2,g⟩
theorem A52{R:Nat}{l:List Nat}(d:Rd h R q off l)(hb:HB h)(h0:0<n)(g:n<=l.length):
 Ok (Lg K (.ptr R 0) (I n) h) fun v h'=>Bs h' v q off (l.take n)/\Rd h' R q (off+n) (l.drop n)/\Ar (fun i=>i=R) h h'/\HB h':=by
 simp only[Lg,dr];refine(A57 (K:=K) d hb h0 g).Ap ?_;intro v h2 p;exact .ret p
theorem Bmu{R:Nat}(d:Rd h R q off []):Qw K (.ptr R 0) h=some (I 0,h):=by
 obtain⟨s,g,e,f⟩:=d.Ow;simp only[Qw,Ab,Cs g rfl,Ac];have:∀k:EV->Go.Ev.R,H5 s k=k (I 0):=fun k=>by unfold H5;rw[e];rfl
 rw[this];simp only[I,Ac];rfl
structure Fr where
 kind:Int
 Ah:Int
 off:Int
 Am:Int
 seq:Int
 body:List Nat
def Fr.cells(f:Fr):List EV:=[I f.kind,I f.Ah,I f.off,I f.Am,I f.seq]++Bj f.body
structure Fr.Wf(f:Fr):Prop where
 len:f.body.length=44
 u8:∀b∈f.body,b<256
def frB(f:Fr):Bool:=wi f.kind 1 5&&(wi f.Ah 0 65535&&(wi f.off 0 65535&&(wi f.Am 1 4294967295&&wi f.seq 0 281474976710655)))
theorem Pq(n a b:Int)(h:Aa):Mm K (.int .i64 n) (.int .i64 a) (.int .i64 b) h=some (.bool (wi n a b),h):=by
 simp only[Mm,Ac,Ab];by_cases d:a<=n
 ·simp only[d,aB,Ab,Ac,Abc,wi,bA]
 ·simp only[d,aA,Ab,Abc,wi,av]
theorem Fr.Bm {f:Fr}(w:f.Wf):f.cells.length=49:=by
 unfold Fr.cells;rw[aG,Bg,w.len];rfl
theorem Adw(f:Fr):Ok (J1 K (.agg f.cells) h) fun v h'=>v=.bool (frB f)/\Ext h h':=by
 simp only[J1,Ab];obtain⟨y,j,d,g,_⟩:=nW h (.cells f.cells 167);rw[j];have l0:f.cells[0]? = some (I f.kind):=rfl;have l1:f.cells[1]? = some (I f.Ah):=rfl;have m:f.cells[2]? = some (I f.off):=rfl;have o:f.cells[3]? = some (I f.Am):=rfl;have u:f.cells[4]? = some (I f.seq):=rfl;simp only[Cs g rfl,Ab,l0,I,Pq,Ac];unfold frB;cases wi f.kind 1 5 with
 | false=>simp only[Ab,Sj,Mq,Jq,G9,Ac];exact .ret ⟨rfl,d⟩
 | true=>
 simp only[Ab,Cs g rfl,l1,I,Pq,Ac,Sj];cases wi f.Ah 0 65535 with
 | false=>simp only[Ab,Mq,Jq,G9,Ac];exact .ret ⟨rfl,d⟩
 | true=>
 simp only[Ab,Cs g rfl,m,I,Pq,Ac,Mq];cases wi f.off 0 65535 with
 | false=>simp only[Ab,Jq,G9,Ac];exact .ret ⟨rfl,d⟩
 | true=>
 simp only[Ab,Cs g rfl,o,I,Pq,Ac,Jq];cases wi f.Am 1 4294967295 with
 | false=>simp only[Ab,G9,Ac];exact .ret ⟨rfl,d⟩
 | true=>
 simp only[Ab,Cs g rfl,u,I,Pq,Ac,G9];exact .ret ⟨by simp only[bA],d⟩
def Au5(f:Fr):List Nat:=T2 1 f.kind.toNat++T2 1 1++T2 2 f.Ah.toNat++T2 2 f.off.toNat++T2 4 f.Am.toNat++T2 6 f.seq.toNat++f.body
noncomputable def Qe(f:Fr):List Nat:=Au5 f++T2 4 (E6 (Au5 f))
theorem Y7(w a:Nat):∀b∈T2 w a,b<256:=fun b hb=>by
 unfold T2 at hb;obtain⟨i,_,rfl⟩:=cA.1 hb;exact Nat.mod_lt _ (by decide)
theorem Aif {f:Fr}(w:f.Wf):(Au5 f).length=60:=by
 unfold Au5;simp only[aG,Gu,w.len]
theorem Aol {f:Fr}(w:f.Wf):(Qe f).length=64:=by
 unfold Qe;rw[aG,Aif w,Gu]
theorem Bba {f:Fr}(w:f.Wf):∀b∈Au5 f,b<256:=fun b hb=>by
 unfold Au5 at hb;simp only[bJ]at hb;rcases hb with(((((hb|hb)|hb)|hb)|hb)|hb)|hb
 ·exact Y7 _ _ b hb
 ·exact Y7 _ _ b hb
 ·exact Y7 _ _ b hb
 ·exact Y7 _ _ b hb
 ·exact Y7 _ _ b hb
 ·exact Y7 _ _ b hb
 ·exact w.u8 b hb
theorem Bbp {f:Fr}(w:f.Wf):∀b∈Qe f,b<256:=fun b hb=>by
 unfold Qe at hb;rcases bJ.1 hb with hb|hb
 ·exact Bba w b hb
 ·exact Y7 _ _ b hb
theorem Vt {w:Nat}{b:Int}(h0:0<=v)(hb:v<=b)(hw:b<(256^w:Nat)):fits w v=true:=aP ⟨h0,by omega⟩
theorem All{f:Fr}(w:f.Wf)(hr:frB f=true)(hb:HB h)(hK:10000<K):
 Ok (Wn K Vl (.agg f.cells) h) fun v h'=>v=.tuple [.agg (Bj (Qe f)),I 0]/\Ext h h':=by
 have aa:=hr;simp only[frB,aV]at aa;obtain⟨r1,r2,r3,r4,r5⟩:=aa;obtain⟨a1,b1⟩:=Ec.1 r1;obtain⟨a2,b2⟩:=Ec.1 r2;obtain⟨a3,b3⟩:=Ec.1 r3;obtain⟨a4,b4⟩:=Ec.1 r4;obtain⟨a5,b5⟩:=Ec.1 r5;have l0:f.cells[0]? = some (I f.kind):=rfl;have l1:f.cells[1]? = some (I f.Ah):=rfl;have l2:f.cells[2]? = some (I f.off):=rfl;have l3:f.cells[3]? = some (I f.Am):=rfl;have l4:f.cells[4]? = some (I f.seq):=rfl;have ab:=Fr.Bm w;unfold Vl;simp only[Wn,Ab];have x1:Ext h (((h.new (.cells Bi 96)).new (.cells f.cells 167)).new (.cells T6 30)):=((Ar.new _ _).Df _).Df _;have u:(((h.new (.cells Bi 96)).new (.cells f.cells 167)).new (.cells T6 30)).get h.next=some (.cells Bi 96):=by
  rw[Aw _ (by show h.next<h.next+1+1;omega),Aw _ (aL _)];exact Ad _ _
 have m:(((h.new (.cells Bi 96)).new (.cells f.cells 167)).new (.cells T6 30)).get (h.next+1)=some (.cells f.cells 167):=by
  rw[Aw _ (by show h.next+1<h.next+1+1;omega)];exact Ad _ _
 have d:(((h.new (.cells Bi 96)).new (.cells f.cells 167)).new (.cells T6 30)).get (h.next+2)=some (.cells T6 30):=Ad _ _;have n1:(((h.new (.cells Bi 96)).new (.cells f.cells 167)).new (.cells T6 30)).next=h.next+3:=rfl
 rw[show(h.new (.cells Bi 96)).next=h.next+1 from rfl,show((h.new (.cells Bi 96)).new (.cells f.cells 167)).next=h.next+2 from rfl,show List.replicate 64 (EV.int .u8 0)=T6 from rfl];generalize ((h.new (.cells Bi 96)).new (.cells f.cells 167)).new (.cells T6 30)=h1 at x1 u m d n1⊢;have G:=x1.hb hb;rw[Cw m rfl,Ak ab];simp only[Gx];refine(Adw (K:=K) f).Ap ?_;rintro _ h2 ⟨rfl,X⟩;rw[hr];simp only[Ab,Akz];have H:=X.hb G;have aj:=x1.trans X;have u:=X.at G u;have m:=X.at G m;have d:=X.at G d;have n2:h.next+3<=h2.next:=by have:=X.next;omega
 have p0:A0m (h2.new (.cells [.Ao,.bool false] 233)) h2.next 233 [] false:=⟨.Ao,0,Ad _ _,.nil _ _ _ _,fun y=>absurd y (bO _)⟩
 have Y:Ext h2 (h2.new (.cells [.Ao,.bool false] 233)):=Ar.new _ _;have u:=Y.at H u;have m:=Y.at H m;have d:=Y.at H d;have C:=Y.hb H;have ad:=aj.trans Y;generalize h2.new (.cells [.Ao,.bool false] 233)=h3 at p0 Y u m d C ad⊢;generalize hP:h2.next=P at p0 n2⊢
 have up:∀{Z hc:Aa},Ext h Z->Ar (fun i=>P<=i) Z hc->Ext h hc:=fun x c=>x.then c fun j hj hl=>by
  have hj:P<=j:=hj;omega
 have A:∀{Z hc:Aa} {i:Nat} {o:Dt},Ar (fun i=>P<=i) Z hc->HB Z->Z.get i=some o->i<P->hc.get i=some o:=fun c hb g hi=>c.at hb g (by omega)
 simp only[Cs m rfl,l0];simp only[Gx];refine(Lh (K:=K) (w:=1) (by omega) p0 C (by simp) (by decide) (by decide) (v:=f.kind) (by omega)).Ap ?_;rintro _ h5 ⟨p,c,J⟩;rw[Vt (b:=5) (by omega) b1 (by decide),aH rfl]at p;have x5:=up ad c;have u:=A c C u (by omega);have m:=A c C m (by omega);have d:=A c C d (by omega);refine(Lh (K:=K) (w:=1) (by omega) p J (by simp[Gu]) (by decide) (by decide) (v:=1) (by omega)).Ap ?_;rintro _ h6 ⟨p,c,L⟩;rw[Vt (b:=1) (by omega) (cY _) (by decide),aH rfl]at p;have x6:=up x5 c;have u:=A c J u (by omega);have m:=A c J m (by omega);have d:=A c J d (by omega);simp only[Ab,Cs m rfl,l1];refine(Lh (K:=K) (w:=2) (by omega) p L (by simp[Gu]) (by decide) (by decide) (v:=f.Ah) (by omega)).Ap ?_;rintro _ h7 ⟨p,c,M⟩;rw[Vt (b:=65535) a2 b2 (by decide),aH rfl]at p;have x7:=up x6 c;have u:=A c L u (by omega);have m:=A c L m (by omega);have d:=A c L d (by omega);simp only[Ab,Cs m rfl,l2];refine(Lh (K:=K) (w:=2) (by omega) p M (by simp[Gu]) (by decide) (by decide) (v:=f.off) (by omega)).Ap ?_;rintro _ h8 ⟨p,c,O⟩;rw[Vt (b:=65535) a3 b3 (by decide),aH rfl]at p;have x8:=up x7 c;have u:=A c M u (by omega);have m:=A c M m (by omega);have d:=A c M d (by omega);simp only[Ab,Cs m rfl,l3];refine(Lh (K:=K) (w:=4) (by omega) p O (by simp[Gu]) (by decide) (by decide) (v:=f.Am) (by omega)).Ap ?_;rintro _ h9 ⟨p,c,Q⟩;rw[Vt (b:=4294967295) (by omega) b4 (by decide),aH rfl]at p;have x9:=up x8 c;have u:=A c O u (by omega);have m:=A c O m (by omega);have d:=A c O d (by omega);simp only[Ab,Cs m rfl,l4];refine(Lh (K:=K) (w:=6) (by omega) p Q (by simp[Gu]) (by decide) (by decide) (v:=f.seq) (by omega)).Ap ?_;rintro _ af ⟨p,c,D⟩;rw[Vt (b:=281474976710655) a5 b5 (by decide),aH rfl]at p;have al:=up x9 c;have u:=A c Q u (by omega);have m:=A c Q m (by omega);have d:=A c Q d (by omega)
 try simp only[Ab]
 rw[show ∀k:EV->R,Ps 44 1 (.ptr (h.next+1) 5) none none none k=k (.slice (h.next+1) 5 44 44 false)from fun k=>rfl];have ao:Oq af 1 44 (.slice (h.next+1) 5 44 44 false)=some (Bj f.body):=by
  show Xy af (h.next+1) 5 44=_;unfold Xy Ash;rw[m];show Mo f.cells 5 44=_;rw[E7 (by rw[ab];decide)];show some (List.take 44 (Bj f.body))=_;rw[bQ (by rw[Bg,w.len];decide)]
 refine(Atv (K:=K) (n:=44) p D (by simp[Gu]) rfl (by decide) (by decide) ao w.len).Ap ?_;rintro _ ca ⟨p,c,E⟩;have aq:=up al c;have u:=A c D u (by omega);have d:=A c D d (by omega);have ep:([]++T2 1 f.kind.toNat++T2 1 (1:Int).toNat++T2 2 f.Ah.toNat++T2 2 f.off.toNat++T2 4 f.Am.toNat++T2 6 f.seq.toNat++f.body)=Au5 f:=by
  unfold Au5;rw[dQ];rfl
 have ag:∀b:Bool,(b||!true)=b:=by decide
 rw[ep]at p;simp only[ag]at p;refine(Azb (K:=K) p E (by rw[Aif w];decide)).Ap ?_;rintro _ cc ⟨y,q',rfl,ry,F,T,lq⟩;have u:=F.at E u;have d:=F.at E d;simp only[Ab,I,Ac];simp only[aC,aA,Ab,Ak3];rw[Cw u rfl,Ak Qx];simp only[Gx];have U:0<(Au5 f).length:=by rw[Aif w];decide
 refine(Bmg (K:=K) hK (ry.bs U) T (Bba w) U (by rw[Aif w];decide)).Ap ?_;rintro v W ⟨q2,S,V,ah,ch⟩;have S:Cj W v q2 5 1 (Qe f).length (Bj (Qe f)):=S;have d:=V.at T d;have B:=Aol w;have aw:=S.slice (by rw[B];decide);subst aw;rw[show ∀k:EV->R,Ay0 64 (.slice q2 0 (Qe f).length (Qe f).length true) k=k (.ptr q2 0)from fun k=>by rw[B];rfl];rw[Cw (S.block (by rw[B];decide)) rfl,Ak (by rw[Bg,B])];simp only[Gx];refine Ok.st (Bj (Qe f)) d rfl (by show Fz (Bj (Qe f))=64;rw[Bc,Bg,B]) (Bk (by rw[Kn];show 64=(Bj (Qe f)).length;rw[Bg,B])) ?_;have ax:(W.put (h.next+2) (.cells (Bj (Qe f)) 30)).get (h.next+2)=some (.cells (Bj (Qe f)) 30):=Ae _ _ _;rw[Ff ax Awi.1 Awi.2 (by rw[Bg,B])];have xx:Ext h W:=aq.trans (F.trans V);exact .ret ⟨rfl,xx.Aq (.inr (by omega)) (ah _ _ d) _⟩
variable {f:Fr}
theorem Ok.Ay6{o:Nat}{l:List EV}{v:EV}{d:Aa->R}{Q:EV->Aa->Prop}(g:h.get i=some (.cells l t))(hb:HB h)(hp:v.plain=true)(m:v.cells = [v])(u:o<l.length)
 (y:∀h',h'.get i=some (.cells (l.set o v) t)->Ar (fun j=>j=i) h h'->HB h'->Ok (d h') Q):Ok (stE 1 (.ptr i o) v h d) Q:=by
 have lt:=hb _ _ g;exact Ok.st1 g hp m u (y _ (Ae _ _ _) ((Ar.refl (S:=fun j=>j=i) h).Aq (.inl rfl) lt _) (hb.put lt _))
theorem Ai9:∀(hd Bt new:List EV),Bt.length=new.length->Fq (hd++Bt) hd.length new=some (hd++new)
 | [],Bt,new,h=>by
  have:=Bk (l:=Bt) (vs:=new) h;rw[Ue]at this;exact this
 | a::hd,Bt,new,h=>by
  have d:=Ai9 hd Bt new h;show Ba (Nat.beq (hd.length+1) 0) _ (match Fq (hd++Bt) hd.length new with|some x=>some (a::x)|none=>none)=_;rw[show Nat.beq (hd.length+1) 0=false from rfl,Bl,d];rfl
theorem A2u{r:Nat}{t:TypeId}{hd Bt new:List EV}{y:EV}(g:h.get i=some (.cells (hd++Bt) t))(m:lenOf y=some n)(o:0<n)(j:Oq h 1 n y=some new)(u:new.length=n)(A:Bt.length=n):
 builtin TT .copy #[173,173] [.slice i hd.length n r op,y] h=some (I n,h.put i (.cells (hd++new) t)):=by
 have hu:TT.Th 173=some (.slice 5):=by kernel_rfl
 have hs:TT.size 5=some 1:=by kernel_rfl
 have hb:Nat.ble n n=true:=aQ (aE _);have h0:Nat.beq n 0=false:=by cases n with|zero=>omega|succ n=>rfl
 have hw:L5 h i hd.length new=some (h.put i (.cells (hd++new) t)):=by
  unfold L5;rw[g];simp only;rw[Ai9 hd Bt new (by omega)]
 rw[Ao1]at j;have d:lenOf (.slice i hd.length n r op)=some n:=rfl;unfold builtin;simp only[hu,hs,d,m,hb,Aj,h0,Bl,j,hw];rfl
theorem Rd.chg{R:Nat}{l:List Nat}{S:Nat->Prop}(d:Rd h R q off l)(hb:HB h)(c:Ar S h h')(j:¬S q)(m:¬S R):Rd h' R q off l:=by
 obtain⟨s,g,e,f⟩:=d.Ow;exact⟨⟨s,c.at hb g m,e,fun y=>⟨(f y).1,(f y).2.frame (c.get _ ((f y).2.lt hb) j)⟩⟩,d.ne⟩
def Fr.zero:Fr:=⟨0,0,0,0,0,List.replicate 44 0⟩
theorem Fr.Hq:List.replicate 5 (EV.int .i64 0)++List.replicate 44 (EV.int .u8 0)=Fr.zero.cells:=by kernel_rfl
def Zh(p:List Nat):Fr:=⟨Vq (p.take 1),Vq (((p.drop 1).drop 1).take 2),Vq ((((p.drop 1).drop 1).drop 2).take 2),Vq (((((p.drop 1).drop 1).drop 2).drop 2).take 4),Vq ((((((p.drop 1).drop 1).drop 2).drop 2).drop 4).take 6),(((((((p.drop 1).drop 1).drop 2).drop 2).drop 4).drop 6).take 44)⟩
noncomputable def Xn(s:List Nat):Fr × Int:=
 if Azi s=false then(Fr.zero,11)else
 if Vq (((s.take 60).drop 1).take 1)=1/\frB (Zh (s.take 60))=true then(Zh (s.take 60),0)else(Fr.zero,10)
theorem A0n:TT.size 167=some 49/\TT.agg 167=some true:=⟨by kernel_rfl,by kernel_rfl⟩
theorem Ay8(hp:p.length=60)(hu:∀b∈p,b<256):(Zh p).Wf:=by
 refine⟨?_,fun b hb=>hu b ?_⟩
 ·simp only[Zh,b9,bT,hp];decide
 ·simp only[Zh]at hb
  exact aS (aS (aS (aS (aS (aS (bc hb))))))
theorem Fr.Gs:Fr.zero.Wf:=⟨by simp[Fr.zero],fun b hb=>by rw[bL hb];decide⟩
theorem Blm {s:List Nat}(d:s.length=64)(hu:∀b∈s,b<256):(Xn s).1.Wf:=by
 unfold Xn;split
 ·exact Fr.Gs
 ·split
  ·exact Ay8 (by rw[b9,d];decide) fun b hb=>hu b (bc hb)
  ·exact Fr.Gs
theorem Awl{s:List Nat}(hl:s.length=64)(hu:∀b∈s,b<256)(hb:HB h)(hK:10000<K):
 Ok (Ac9 K Vl (.agg (Bj s)) h) fun v h'=>v=.tuple [.agg (Xn s).1.cells,I (Xn s).2]/\Ext h h':=by
 unfold Vl;simp only[Ac9,Ab];rw[Fr.Hq];have x1:Ext h (((h.new (.cells Bi 96)).new (.cells (Bj s) 30)).new (.cells Fr.zero.cells 167)):=((Ar.new _ _).Df _).Df _;have g2:(((h.new (.cells Bi 96)).new (.cells (Bj s) 30)).new (.cells Fr.zero.cells 167)).get h.next=some (.cells Bi 96):=by
  rw[Aw _ (by show h.next<h.next+1+1;omega),Aw _ (aL _)];exact Ad _ _
 have g3:(((h.new (.cells Bi 96)).new (.cells (Bj s) 30)).new (.cells Fr.zero.cells 167)).get (h.next+1)=some (.cells (Bj s) 30):=by
  rw[Aw _ (by show h.next+1<h.next+1+1;omega)];exact Ad _ _
 have m:(((h.new (.cells Bi 96)).new (.cells (Bj s) 30)).new (.cells Fr.zero.cells 167)).get (h.next+2)=some (.cells Fr.zero.cells 167):=Ad _ _;have n1:(((h.new (.cells Bi 96)).new (.cells (Bj s) 30)).new (.cells Fr.zero.cells 167)).next=h.next+3:=rfl
 rw[show(h.new (.cells Bi 96)).next=h.next+1 from rfl,show((h.new (.cells Bi 96)).new (.cells (Bj s) 30)).next=h.next+2 from rfl];generalize ((h.new (.cells Bi 96)).new (.cells (Bj s) 30)).new (.cells Fr.zero.cells 167)=h1 at x1 g2 g3 m n1⊢;have ai:=x1.hb hb;have c0:=ai _ _ g2;have zl:=Fr.Bm Fr.Gs;have fin:∀(f:Fr) (e:Int) (h5:Aa) (kk:Aa->R),(∀h',kk h'=It TT [.c (.ptr (h.next+2) 0) 167,.v (I e)] h')->HB h5->Ext h h5->h5.get (h.next+2)=some (.cells Fr.zero.cells 167)->f.Wf->(f,e)=Xn s ->
  Ok (stE 49 (.ptr (h.next+2) 0) (.agg f.cells) h5 kk) fun v h'=>v=.tuple [.agg (Xn s).1.cells,I (Xn s).2]/\Ext h h':=by
  intro f e h5 kk c7 X x5 g5 wf he;have fl:=Fr.Bm wf;refine Ok.st f.cells g5 rfl (by show Fz f.cells=49;rw[Bc,fl]) (Bk (by rw[zl];exact fl.symm)) ?_;have g6:(h5.put (h.next+2) (.cells f.cells 167)).get (h.next+2)=some (.cells f.cells 167):=Ae _ _ _;rw[c7,Ff g6 A0n.1 A0n.2 fl,<-he];exact .ret ⟨rfl,x5.Aq (.inr (by omega)) (X _ _ g5) _⟩
 simp only[Cm c0,Au,Ab,Cw g2 rfl,Ak Qx];rw[show ∀k:EV->R,Ps 64 1 (.ptr (h.next+1) 0) none none none k=k (.slice (h.next+1) 0 64 64 false)from fun k=>rfl];have bs:Bs h1 (.slice (h.next+1) 0 s.length 64 false) (h.next+1) 0 s:=by
  refine⟨64,false,_,Bj s,rfl,by omega,g3,rfl,by rw[Bg];omega,?_⟩;rw[dF,<-Bg,cO]
 have bw:=Bmc (K:=K) hK bs.lift (Dg ai) hu (by omega) (by omega);rw[hl]at bw;refine Ok.bE bw (fun _ _ p=>p.1) ?_;rintro v h2 h3 ⟨_,_,hv⟩ sm x3;have a1:=x3.hb ai;have m:=x3.at ai m;have bx:=x1.trans x3;rcases hv with⟨ho,rfl⟩|⟨ho,y,q',rfl,ry,lq⟩
 ·simp only[Ab,I,Ac]
  simp only[show ¬((11:Int)=0) by decide,aN,aB,Ab];rw[Ax (l:=Fr.zero.cells) rfl];exact fin Fr.zero 11 h3 _ (fun _=>rfl) a1 bx m Fr.Gs (by unfold Xn;rw[aH ho])
 ·have da:¬Azi s=false:=by rw[ho];simp
  simp only[Ab,I,Ac];simp only[aC,aA,Ab,Ak8];have db:s.length-4=60:=by omega
  rw[db]at ry;have bz:(s.take 60).length=60:=by rw[b9,hl];decide
  have H:∀b∈s.take 60,b<256:=fun b hb=>hu b (bc hb)
  have b5:Cj h3 y q' 5 1 (s.take 60).length (Bj (s.take 60)):=ry.frame fun _=>sm.get _
  have Y:Xn s=if Vq (((s.take 60).drop 1).take 1)=1/\frB (Zh (s.take 60))=true then(Zh (s.take 60),0)else(Fr.zero,10):=by unfold Xn;rw[aF da]
  have E:=Ay8 bz H;rw[Y]at fin⊢;unfold Zh at fin Y E⊢;generalize s.take 60=p at b5 bz H fin Y E⊢;refine(Asx (K:=K) (b5.bs (by omega)) a1 (by omega) (by omega)).Ap ?_;rintro _ h5 ⟨V,q,rfl,d0,x5,X,eE⟩;have m:=x5.at a1 m;have de:=bx.trans x5;have eF:V<h5.next:=by obtain⟨_,g,_⟩:=d0.Ow;exact X _ _ g
  have eG:h.next+2<V:=by have:=d0.ne;have:=x3.next;omega
  have up:∀{J O:Aa},Ext h J->Ar (fun i=>i=V) J O->Ext h O:=fun x c=>x.then c fun j hj df=>by
   have hj:j=V:=hj;omega
  have Ju:∀{J O:Aa} {i:Nat} {o:Dt},Ar (fun i=>i=V) J O->HB J->J.get i=some o->i≠V->O.get i=some o:=fun c hb g hi=>c.at hb g hi
  refine(Ad6 (K:=K) (w:=1) d0 X (by omega) (by decide) (by decide) (by omega) H).Ap ?_;rintro _ h6 ⟨rfl,d1,c6,a2⟩;have m:=Ju c6 X m (by omega);have x6:=up de c6;rw[Ax (l:=(⟨Vq (p.take 1),0,0,0,0,List.replicate 44 0⟩:Fr).cells) rfl]
  try simp only[Ab]
  rw[Fr.Hq];have x7:Ext h6 (h6.new (.cells Fr.zero.cells 167)):=Ar.new _ _;have u:(h6.new (.cells Fr.zero.cells 167)).get h6.next=some (.cells Fr.zero.cells 167):=Ad _ _
  have n7:(h6.new (.cells Fr.zero.cells 167)).next=h6.next+1:=rfl
  have m:=x7.at a2 m;have al:=x7.hb a2;have d1:=d1.ext a2 x7;have b7:=x6.trans x7;have hF:V<h6.next:=by have:=c6.next;omega
  generalize h6.new (.cells Fr.zero.cells 167)=h7 at x7 u n7 m al d1 b7⊢;generalize h6.next=B at u n7 hF⊢
  refine Ok.st (⟨Vq (p.take 1),0,0,0,0,List.replicate 44 0⟩:Fr).cells u rfl (by kernel_rfl) (Bk (by kernel_rfl)) ?_;have lF:=al _ _ u;have u:(h7.put B (.cells (⟨Vq (p.take 1),0,0,0,0,List.replicate 44 0⟩:Fr).cells 167)).get B=some (.cells (⟨Vq (p.take 1),0,0,0,0,List.replicate 44 0⟩:Fr).cells 167):=Ae _ _ _;have m:(h7.put B (.cells (⟨Vq (p.take 1),0,0,0,0,List.replicate 44 0⟩:Fr).cells 167)).get (h.next+2)=some (.cells Fr.zero.cells 167):=by rw[Af _];exact m
  have d1:Rd (h7.put B (.cells (⟨Vq (p.take 1),0,0,0,0,List.replicate 44 0⟩:Fr).cells 167)) V q (0+1) (p.drop 1):=by
   have c:Ar (fun i=>i=B) h7 (h7.put B (.cells (⟨Vq (p.take 1),0,0,0,0,List.replicate 44 0⟩:Fr).cells 167)):=(Ar.refl (S:=fun i=>i=B) h7).Aq (.inl rfl) lF _;exact d1.chg al c (by have:=d1.ne;intro y;omega) (by intro y;omega)
  have x8:Ext h (h7.put B (.cells (⟨Vq (p.take 1),0,0,0,0,List.replicate 44 0⟩:Fr).cells 167)):=b7.Aq (.inr (by omega)) lF _;have ao:=al.put lF (.cells (⟨Vq (p.take 1),0,0,0,0,List.replicate 44 0⟩:Fr).cells 167);generalize h7.put B (.cells (⟨Vq (p.take 1),0,0,0,0,List.replicate 44 0⟩:Fr).cells 167)=h8 at u m d1 x8 ao⊢;refine(Ad6 (K:=K) (w:=1) d1 ao (by omega) (by decide) (by decide) (by simp only[bT];omega) (fun b hb=>H b (by revert hb;exact fun y=>aS y))).Ap ?_;rintro _ h9 ⟨rfl,d2,c9,a3⟩;have m:=Ju c9 ao m (by omega);have u:=Ju c9 ao u (by omega);have x9:=up x8 c9;refine(Ad6 (K:=K) (w:=2) d2 a3 (by omega) (by decide) (by decide) (by simp only[bT];omega) (fun b hb=>H b (aS (aS hb)))).Ap ?_;rintro _ eY ⟨rfl,d3,a4,Z⟩;have m:=Ju a4 a3 m (by omega);have u:=Ju a4 a3 u (by omega);have dp:=up x9 a4;refine(Ad6 (K:=K) (w:=2) d3 Z (by omega) (by decide) (by decide) (by simp only[bT];omega) (fun b hb=>H b (aS (aS (aS hb))))).Ap ?_;rintro _ eZ ⟨rfl,d4,a5,aa⟩;have m:=Ju a5 Z m (by omega);have u:=Ju a5 Z u (by omega);have dt:=up dp a5;refine(Ad6 (K:=K) (w:=4) d4 aa (by omega) (by decide) (by decide) (by simp only[bT];omega) (fun b hb=>H b (aS (aS (aS (aS hb)))))).Ap ?_;rintro _ fa ⟨rfl,d5,a6,ab⟩;have m:=Ju a6 aa m (by omega);have u:=Ju a6 aa u (by omega);have du:=up dt a6;refine(Ad6 (K:=K) (w:=6) d5 ab (by omega) (by decide) (by decide) (by simp only[bT];omega) (fun b hb=>H b (aS (aS (aS (aS (aS hb))))))).Ap ?_;rintro _ fc ⟨rfl,d6,a7,ad⟩;have m:=Ju a7 ab m (by omega);have u:=Ju a7 ab u (by omega);have b8:=up du a7;have ae:∀{J O:Aa},Ext h J->Ar (fun i=>i=B) J O->Ext h O:=fun x c=>x.then c fun j hj df=>by
   have hj:j=B:=hj;omega
  have C:∀{J O:Aa} {i:Nat} {o:Dt},Ar (fun i=>i=B) J O->HB J->J.get i=some o->i≠B->O.get i=some o:=fun c hb g hi=>c.at hb g hi
  have D:∀{J O:Aa} {off:Nat} {l:List Nat},Ar (fun i=>i=B) J O->HB J->Rd J V q off l->Rd O V q off l:=fun c hb d=>d.chg hb c (by have:=d.ne;intro y;omega) (by intro y;omega)
  have hz:(⟨Vq (p.take 1),0,0,0,0,List.replicate 44 0⟩:Fr).cells.length=49:=by kernel_rfl
  refine Ok.Ay6 u ad rfl rfl (by rw[hz];decide) ?_;intro fe u ba af;have m:=C ba ad m (by omega);have d6:=D ba ad d6;have dw:=ae b8 ba
  try simp only[Ab]
  refine Ok.Ay6 u af rfl rfl (by rw[bM,hz];decide) ?_;intro ff u bb ag;have m:=C bb af m (by omega);have d6:=D bb af d6;have ca:=ae dw bb
  try simp only[Ab]
  refine Ok.Ay6 u ag rfl rfl (by rw[bM,bM,hz];decide) ?_;intro fg u bf ah;have m:=C bf ag m (by omega);have d6:=D bf ag d6;have dx:=ae ca bf
  try simp only[Ab]
  refine Ok.Ay6 u ah rfl rfl (by rw[bM,bM,bM,hz];decide) ?_;intro cc u bj Q;have m:=C bj ah m (by omega);have d6:=D bj ah d6;have cf:=ae dx bj
  try simp only[Ab]
  have u:cc.get B=some (.cells ([Nk .i64 (Vq (p.take 1)),Nk .i64 (Vq (((p.drop 1).drop 1).take 2)),Nk .i64 (Vq ((((p.drop 1).drop 1).drop 2).take 2)),Nk .i64 (Vq (((((p.drop 1).drop 1).drop 2).drop 2).take 4)),Nk .i64 (Vq ((((((p.drop 1).drop 1).drop 2).drop 2).drop 4).take 6))]++Bj (List.replicate 44 0)) 167):=u;rw[show ∀k:EV->R,Ps 44 1 (.ptr B 5) none none none k=k (.slice B 5 44 44 false)from fun k=>rfl];have A:((((((p.drop 1).drop 1).drop 2).drop 2).drop 4).drop 6).length=44:=by simp only[bT];omega
  have dl:Rd cc.lift V q (0+1+1+2+2+4+6) ((((((p.drop 1).drop 1).drop 2).drop 2).drop 4).drop 6):=d6.chg Q (S:=fun _=>False) ⟨fun i _ _=>By _ _,aE _,fun w _ w2 _=>w2,fun y=>Dg y⟩ id id;refine Ok.bC (S:=fun i=>i=V) (A52 (K:=K) (n:=44) dl (Dg Q) (by decide) (by omega)) (fun _ _ p=>p.2.2.1) ?_;rintro bk eo L s' ⟨W,d7,_,bn⟩ T bo bp;have U:=T.hb bn;have W:Bs L bk q (0+1+1+2+2+4+6) (((((((p.drop 1).drop 1).drop 2).drop 2).drop 4).drop 6).take 44):=W.frame (T.get _);have d7:Rd L V q (0+1+1+2+2+4+6+44) (((((((p.drop 1).drop 1).drop 2).drop 2).drop 4).drop 6).drop 44):=by
   obtain⟨s0,g,e,f⟩:=d7.Ow;exact⟨⟨s0,by rw[T.get];exact g,e,fun y=>⟨(f y).1,(f y).2.frame (T.get _)⟩⟩,d7.ne⟩
  have m:=Ju bo Q m (by omega);have u:=Ju bo Q u (by omega);have dy:=up cf bo;generalize fh:(((((p.drop 1).drop 1).drop 2).drop 2).drop 4).drop 6=body at W d7 A fin E⊢;generalize hq:Vq ((p.drop 1).take 1)=aq at fin⊢;generalize Vq (p.take 1)=na at u fin E⊢;generalize Vq (((p.drop 1).drop 1).take 2)=nz at u fin E⊢;generalize Vq ((((p.drop 1).drop 1).drop 2).take 2)=no at u fin E⊢;generalize Vq (((((p.drop 1).drop 1).drop 2).drop 2).take 4)=ne at u fin E⊢;generalize Vq ((((((p.drop 1).drop 1).drop 2).drop 2).drop 4).take 6)=ns at u fin E⊢;have ea:body.take 44=body:=bQ (by omega);rw[ea]at W fin E⊢;have eb:body.drop 44 = []:=List.drop_eq_nil_of_le (by omega);rw[eb]at d7;have hlen:lenOf bk=some 44:=by have:=W.len;rw[A]at this;exact this
  have ch:Oq L.lift 1 44 bk=some (Bj body):=by have:=W.lift.cells;rw[A]at this;exact this
  have ec:=A2u (h:=L.lift) (i:=B) (n:=44) (r:=44) (op:=false) (t:=167) (hd:=[Nk .i64 na,Nk .i64 nz,Nk .i64 no,Nk .i64 ne,Nk .i64 ns]) (Bt:=Bj (List.replicate 44 0)) (by rw[By];exact u) hlen (by decide) ch (by rw[Bg,A]) (by rw[Bg,bV]);have cp:=U _ _ u;refine Ok.Bgr (S:=fun i=>i=B) (by rcases bp with rfl|⟨w,rfl,_⟩<;>kernel_rfl) (by rcases bp with rfl|⟨w,rfl,_⟩<;>kernel_rfl) (fun w=>by rcases bp with rfl|⟨w,rfl,_⟩<;>kernel_rfl) (P:=fun v h'=>h'=L.lift.put B (.cells ([Nk .i64 na,Nk .i64 nz,Nk .i64 no,Nk .i64 ne,Nk .i64 ns]++Bj body) 167)) ⟨_,_,ec,rfl⟩ (fun _ _ p=>by rw[p];exact(Ar.refl (S:=fun i=>i=B) L.lift).Aq (.inl rfl) (show B<L.lift.next from cp) _) ?_;rintro fi et bt s2 rfl ct au _;have G:=au.hb U;have u:bt.get B=some (.cells ([Nk .i64 na,Nk .i64 nz,Nk .i64 no,Nk .i64 ne,Nk .i64 ns]++Bj body) 167):=by rw[ct.get];exact Ae _ _ _
  have m:=C au U m (by omega);have d7:=D au U d7;have cv:=ae dy au;simp only[Ac];have cl:([Nk .i64 na,Nk .i64 nz,Nk .i64 no,Nk .i64 ne,Nk .i64 ns]++Bj body).length=49:=by rw[aG,Bg,A];rfl
  have bad:∀M:Aa,Ext bt M->¬(aq=1/\frB ⟨na,nz,no,ne,ns,body⟩=true)->∀w:EV,Ok (Ug K (.ptr (h.next+2) 0) (.ptr B 0) (.bool true) w M) _:=fun M F ed w=>by
   simp only[Ug,Ab];rw[Ax (l:=Fr.zero.cells) rfl];exact fin Fr.zero 10 M _ (fun _=>rfl) (F.hb G) (cv.trans F) (F.at G m) Fr.Gs (by rw[aF ed])
  by_cases hv:aq=1
  ·rw[show decide (¬Int.ofNat aq=1)=false from aO (by rw[hv];exact fun y=>y rfl)]
   simp only[Ab];rw[Cw u rfl,Ak cl];simp only[Gx];refine(Adw (K:=K) ⟨na,nz,no,ne,ns,body⟩).Ap ?_;rintro _ M ⟨rfl,F⟩;generalize frB ⟨na,nz,no,ne,ns,body⟩=fb at fin bad⊢;cases fb with
   | false=>
    simp only[Ab,Uj,Ac];exact bad M F (by simp) _
   | true=>
    have cw:=F.hb G;simp only[Ab,Uj,Ac,Bmu (d7.ext G F),I];simp only[Ug,Ab,aC,aA,Ak2];rw[Cw (F.at G u) rfl,Ak cl];simp only[Gx];have r:=fin ⟨na,nz,no,ne,ns,body⟩ 0 M (fun z=>It TT [RV.c (EV.ptr (h.next+2) 0) 167,RV.v (EV.int IntKind.i64 0)] z) (fun _=>rfl) cw (cv.trans F) (F.at G m) E (by rw[aH ⟨hv,rfl⟩]);simp only[eq_self]at r;exact r
  ·rw[show decide (¬Int.ofNat aq=1)=true from aP fun y=>hv (Int.ofNat.inj y)]
   simp only[Ab,Uj,Ac];exact bad bt (Ar.refl _) (fun y=>hv y.1) _
noncomputable def atF(s:List Nat)(Ah off:Int):Fr × Int:=
 if ¬(Xn s).2=0 then(Fr.zero,(Xn s).2)else if ¬(Xn s).1.Ah=Ah\/¬(Xn s).1.off=off then(Fr.zero,12)else((Xn s).1,0)
theorem A5h{s:List Nat}(H:s.length=64)(hu:∀b∈s,b<256)(hb:HB h)(Y:10000<K)(Ah off:Int):
 Ok (As0 K Vl (.agg (Bj s)) (I Ah) (I off) h) fun v h'=>v=.tuple [.agg (atF s Ah off).1.cells,I (atF s Ah off).2]/\(atF s Ah off).1.Wf/\Ext h h':=by
 unfold Vl;simp only[As0,Ab];rw[Fr.Hq];have J:Ext h (((h.new (.cells Bi 96)).new (.cells (Bj s) 30)).new (.cells Fr.zero.cells 167)):=((Ar.new _ _).Df _).Df _;have S:(((h.new (.cells Bi 96)).new (.cells (Bj s) 30)).new (.cells Fr.zero.cells 167)).get h.next=some (.cells Bi 96):=by
  rw[Aw _ (by show h.next<h.next+1+1;omega),Aw _ (aL _)];exact Ad _ _
 have T:(((h.new (.cells Bi 96)).new (.cells (Bj s) 30)).new (.cells Fr.zero.cells 167)).get (h.next+1)=some (.cells (Bj s) 30):=by
  rw[Aw _ (by show h.next+1<h.next+1+1;omega)];exact Ad _ _
 have d:(((h.new (.cells Bi 96)).new (.cells (Bj s) 30)).new (.cells Fr.zero.cells 167)).get (h.next+2)=some (.cells Fr.zero.cells 167):=Ad _ _;have Z:(((h.new (.cells Bi 96)).new (.cells (Bj s) 30)).new (.cells Fr.zero.cells 167)).next=h.next+3:=rfl
 rw[show(h.new (.cells Bi 96)).next=h.next+1 from rfl,show((h.new (.cells Bi 96)).new (.cells (Bj s) 30)).next=h.next+2 from rfl];generalize ((h.new (.cells Bi 96)).new (.cells (Bj s) 30)).new (.cells Fr.zero.cells 167)=h1 at J S T d Z⊢;have m:=J.hb hb;have zl:=Fr.Bm Fr.Gs;have o:=Blm H hu;have fin:∀(f:Fr) (e:Int) (y:Aa) (L:Aa->R),(∀h',L h'=It TT [.c (.ptr (h.next+2) 0) 167,.v (I e)] h')->HB y->Ext h y->y.get (h.next+2)=some (.cells Fr.zero.cells 167)->f.Wf->(f,e)=atF s Ah off ->
  Ok (stE 49 (.ptr (h.next+2) 0) (.agg f.cells) y L) fun v h'=>v=.tuple [.agg (atF s Ah off).1.cells,I (atF s Ah off).2]/\(atF s Ah off).1.Wf/\Ext h h':=by
  intro f e y L M O x5 U wf he;have fl:=Fr.Bm wf;refine Ok.st f.cells U rfl (by show Fz f.cells=49;rw[Bc,fl]) (Bk (by rw[zl];exact fl.symm)) ?_;have g6:(y.put (h.next+2) (.cells f.cells 167)).get (h.next+2)=some (.cells f.cells 167):=Ae _ _ _;rw[M,Ff g6 A0n.1 A0n.2 fl,<-he];exact .ret ⟨rfl,wf,x5.Aq (.inr (by omega)) (O _ _ U) _⟩
 have u64:(Bj s).length=64:=by rw[Bg,H]
 rw[Cw S rfl,Ak Qx];simp only[Gx];rw[Cw T rfl,Ak u64];simp only[Gx];refine(Awl (K:=K) H hu m Y).Ap ?_;rintro _ h2 ⟨rfl,E⟩;have A:=E.hb m;have d:=E.at m d;have Q:=J.trans E;simp only[Ab];have F:Ext h2 (h2.new (.cells Fr.zero.cells 167)):=Ar.new _ _;have j:(h2.new (.cells Fr.zero.cells 167)).get h2.next=some (.cells Fr.zero.cells 167):=Ad _ _
 have d:=F.at A d;have u:=F.hb A;have B:=Q.trans F;have n2:h.next+3<=h2.next:=by have:=E.next;omega
 generalize h2.new (.cells Fr.zero.cells 167)=G at F j d u B⊢;generalize h2.next=C at j n2⊢
 have dl:=Fr.Bm o;refine Ok.st (Xn s).1.cells j rfl (by show Fz (Xn s).1.cells=49;rw[Bc,dl]) (Bk (by rw[zl];exact dl.symm)) ?_;have V:=u _ _ j;have j:(G.put C (.cells (Xn s).1.cells 167)).get C=some (.cells (Xn s).1.cells 167):=Ae _ _ _;have d:(G.put C (.cells (Xn s).1.cells 167)).get (h.next+2)=some (.cells Fr.zero.cells 167):=by rw[Af _];exact d
 have D:Ext h (G.put C (.cells (Xn s).1.cells 167)):=B.Aq (.inr (by omega)) V _;have g:=u.put V (.cells (Xn s).1.cells 167);have e0:EV.cells (EV.agg (Xn s).1.cells)=(Xn s).1.cells:=rfl;generalize G.put C (.cells (Xn s).1.cells 167)=h4 at j d D g⊢;unfold atF at fin⊢;generalize (Xn s).2=e at fin⊢;generalize (Xn s).1=f at fin o dl j⊢;simp only[I,Ac];by_cases he:e=0
 ·subst he
  simp only[aC,aA,Ab,Avp,Cs j rfl,ak]at fin⊢;have l1:f.cells[1]? = some (I f.Ah):=rfl;have l2:f.cells[2]? = some (I f.off):=rfl;rw[l1];simp only[Gx,I,Ac];by_cases W:f.Ah=Ah
  ·simp only[W,aC,aA,Ab,Cs j rfl,false_or]at fin⊢
   rw[l2];simp only[Gx,I,Ac];by_cases X:f.off=off
   ·simp only[X,aC,aA,Ab,Afr,ak,Awf]at fin⊢
    rw[Cw j rfl,Ak dl];exact fin f 0 h4 _ (fun _=>rfl) g D d o rfl
   ·simp only[X,aN,aB,Ab,Afr,bI]at fin⊢
    rw[Ax (l:=Fr.zero.cells) rfl];exact fin Fr.zero 12 h4 _ (fun _=>rfl) g D d Fr.Gs rfl
  ·simp only[W,aN,aB,Ab,true_or,bI,Afr]at fin⊢
   rw[Ax (l:=Fr.zero.cells) rfl];exact fin Fr.zero 12 h4 _ (fun _=>rfl) g D d Fr.Gs rfl
 ·simp only[he,aN,aB,Ab,bI]at fin⊢
  rw[Ax (l:=Fr.zero.cells) rfl];exact fin Fr.zero e h4 _ (fun _=>rfl) g D d Fr.Gs rfl
structure En where
 kind:Int
 first:Int
 count:Int
 block:Int
 many:Int
 Ay:Int
 bytes:List Nat
def En.cells(e:En):List EV:=[I e.kind,I e.first,I e.count,I e.block,I e.many,I e.Ay]++Bj e.bytes
structure En.Wf(e:En):Prop where
 len:e.bytes.length=32
 u8:∀b∈e.bytes,b<256
theorem En.Bm {e:En}(w:e.Wf):e.cells.length=38:=by
 unfold En.cells;rw[aG,Bg,w.len];rfl
theorem Bkm(a b:Nat):Aje (Nk .u8 a) (Nk .u8 b)=some (decide (a=b)):=by
 show Ba (Nat.beq (P7 .u8) (P7 .u8)) (some (eqB (Int.ofNat a) (Int.ofNat b))) none=_;rw[cK,Aj,Ah1];exact congrArg some (eI.2 ⟨Int.ofNat.inj,congrArg _⟩)
theorem Aus:∀(a b:List Nat),a.length=b.length->E2 (Bj a) (Bj b)=some (decide (a=b))
 | [],[],_=>rfl
 | x::a,y::b,h=>by
  have g:=Aus a b (by simpa using h);show(match Aje (Nk .u8 x) (Nk .u8 y)with|some true=>E2 (Bj a) (Bj b)|some false=>(match E2 (Bj a) (Bj b)with|some _=>some false|none=>none)|none=>none)=_;rw[Bkm,g];by_cases d:x=y
  ·rw[aP d]
   subst d;simp
  ·rw[aO d]
   simp[d]
theorem Aue:∀(a:List Nat),shaped (List.replicate a.length 0) (Bj a)=true
 | []=>rfl
 | x::a=>by
  show Ba (Nat.beq 0 0) (shaped (List.replicate a.length 0) (Bj a)) false=true;rw[Aue a];rfl
theorem Be3(d:TT.eqs t=some (List.replicate n 0)){a b:List Nat}(g:a.length=n)(hb:b.length=n)(k:EV->R):Kk Al0 (bin TT .eql t) (.agg (Bj a)) (.agg (Bj b)) k=k (.bool (decide (a=b))):=by
 have e:bin TT .eql t (.agg (Bj a)) (.agg (Bj b))=some (.bool (decide (a=b))):=by
  show(match Aqr TT t (.agg (Bj a)) (.agg (Bj b))with|some b=>some (EV.bool b)|none=>none)=_;have:Aqr TT t (.agg (Bj a)) (.agg (Bj b))=some (decide (a=b)):=by
   show(match TT.eqs t with|some sh=>Ba (shaped sh (Bj a)) (E2 (Bj a) (Bj b)) none|none=>none)=_;rw[d];simp only;rw[show List.replicate n 0=List.replicate a.length 0 by rw[g],Aue,Aj,Aus a b (by omega)]
  rw[this]
 show oB k (bin TT .eql t (.agg (Bj a)) (.agg (Bj b)))=_;rw[e];rfl
theorem Bdb(d:TT.eqs t=some (List.replicate n 0)){a b:List Nat}(g:a.length=n)(hb:b.length=n)(k:EV->R):Kk Ajg (bin TT .neq t) (.agg (Bj a)) (.agg (Bj b)) k=k (.bool (decide (¬a=b))):=by
 have e:bin TT .neq t (.agg (Bj a)) (.agg (Bj b))=some (.bool (decide (¬a=b))):=by
  show(match Aqr TT t (.agg (Bj a)) (.agg (Bj b))with|some b=>some (EV.bool (Ba b false true))|none=>none)=_;have:Aqr TT t (.agg (Bj a)) (.agg (Bj b))=some (decide (a=b)):=by
   show(match TT.eqs t with|some sh=>Ba (shaped sh (Bj a)) (E2 (Bj a) (Bj b)) none|none=>none)=_;rw[d];simp only;rw[show List.replicate n 0=List.replicate a.length 0 by rw[g],Aue,Aj,Aus a b (by omega)]
  rw[this];by_cases h:a=b
  ·simp[h,Ba]
  ·simp[h,Ba]
 show oB k (bin TT .neq t (.agg (Bj a)) (.agg (Bj b)))=_;rw[e];rfl
theorem Bpz:TT.eqs 49=some (List.replicate 32 0):=by kernel_rfl
theorem Bo0:TT.eqs 165=some (List.replicate 44 0):=by kernel_rfl
theorem Pv(n a b:Int)(h:Aa):O7 K (.int .i64 n) (.int .i64 a) (.int .i64 b) h=some (.bool (wi n a b),h):=by
 simp only[O7,Ac,Ab];by_cases d:a<=n
 ·simp only[d,aB,Ab,Ac,Abd,wi,bA]
 ·simp only[d,aA,Ab,Abd,wi,av]
def Dd:List Nat:=List.replicate 32 0
def Aki(e:En):Bool:=
 if e.kind=1 then wi e.count 1 4&&decide (e.many=0)else
 if e.kind=2 then(decide (e.count=1)&&wi e.many 1 (256-e.block))&&decide (e.bytes=Dd)else
 if e.kind=3 then decide (e.count=1)&&decide (e.many=0)else false
theorem I6:List.replicate 32 (EV.int .u8 0)=Bj Dd:=by kernel_rfl
theorem Aww{e:En}(w:e.Wf)(j:wi e.block 0 255=true):Ok (Ph K (.agg e.cells) h) fun v h'=>v=.bool (Aki e)/\Ext h h':=by
 obtain⟨b0,b1⟩:=Ec.1 j;simp only[Ph,Ab];obtain⟨E,B,d,g,_⟩:=nW h (.cells e.cells 131);rw[B];have l0:e.cells[0]? = some (I e.kind):=rfl;have m:e.cells[2]? = some (I e.count):=rfl;have C:e.cells[3]? = some (I e.block):=rfl;have o:e.cells[4]? = some (I e.many):=rfl;have D:Mo e.cells 6 32=some (Bj e.bytes):=by
  rw[E7 (by rw[En.Bm w];decide)];show some (List.take 32 (Bj e.bytes))=_;rw[bQ (by rw[Bg,w.len];decide)]
 simp only[Cs g rfl,Ab,l0,I,Ac];unfold Aki;by_cases u:e.kind=1
 ·simp only[u,aB,Ab,Cs g rfl,m,I,Pv,Ac,bI]
  cases wi e.count 1 4 with
  | false=>simp only[Ab,Qn,Ac];exact .ret ⟨rfl,d⟩
  | true=>
   simp only[Ab,Cs g rfl,o,I,Ac,Qn,bA];exact .ret ⟨rfl,d⟩
 ·simp only[u,aA,Ab,ak,Ac]
  by_cases y:e.kind=2
  ·simp only[y,aB,Ab,Cs g rfl,m,I,Ac,bI]
   by_cases c1:e.count=1
   ·simp only[c1,aB,Ab,Cs g rfl,o,C,I,Ac,bA]
    rw[Cq,Pv];simp only[Ab,Qf];cases wi e.many 1 (256-e.block)with
    | false=>simp only[Ab,Lx,Ac,av];exact .ret ⟨rfl,d⟩
    | true=>
     simp only[Ab,Ac,Cw g rfl,D];rw[Ax (l:=Bj Dd) (by rw[I6];rfl),Be3 Bpz w.len (by rfl)];simp only[Lx,Ab,bA];exact .ret ⟨rfl,d⟩
   ·simp only[c1,aA,Ab,Ac,Qf,Lx,av]
    exact .ret ⟨rfl,d⟩
  ·simp only[y,aA,Ab,ak,Ac]
   by_cases A:e.kind=3
   ·simp only[A,aB,Ab,Cs g rfl,m,I,Ac,bI]
    by_cases c1:e.count=1
    ·simp only[c1,aB,Ab,Cs g rfl,o,I,Ac,Qh,bA]
     exact .ret ⟨rfl,d⟩
    ·simp only[c1,aA,Ab,Ac,Qh,av]
     exact .ret ⟨rfl,d⟩
   ·simp only[A,aA,Ab,ak,X6]
    exact .ret ⟨rfl,d⟩
def erB(e:En):Bool:=wi e.first 0 281474976710655&&(wi e.block 0 255&&(wi e.Ay 0 65535&&Aki e))
theorem Axz{e:En}(w:e.Wf):Ok (Q4 K (.agg e.cells) h) fun v h'=>v=.bool (erB e)/\Ext h h':=by
 simp only[Q4,Ab];obtain⟨A,m,d,g,_⟩:=nW h (.cells e.cells 131);rw[m];have l1:e.cells[1]? = some (I e.first):=rfl;have o:e.cells[3]? = some (I e.block):=rfl;have u:e.cells[5]? = some (I e.Ay):=rfl;simp only[Cs g rfl,Ab,l1,I,Pv,Ac];unfold erB;cases wi e.first 0 281474976710655 with
 | false=>simp only[Ab,Ac,Rw,Mz,Jk];exact .ret ⟨rfl,d⟩
 | true=>
 simp only[Ab,Ac,Cs g rfl,o,I,Pv,Rw,bA];cases j:wi e.block 0 255 with
 | false=>simp only[Ab,Ac,Mz,Jk];exact .ret ⟨rfl,d⟩
 | true=>
 simp only[Ab,Ac,Cs g rfl,u,I,Pv,Mz,bA];cases wi e.Ay 0 65535 with
 | false=>simp only[Ab,Ac,Jk];exact .ret ⟨rfl,d⟩
 | true=>
 simp only[Ab,Ac,bA];rw[Cw g rfl,Ak (En.Bm w)];simp only[Gx];refine(Aww (K:=K) w j).Ap ?_;rintro _ h2 ⟨rfl,y⟩;simp only[Jk,Ab];exact .ret ⟨rfl,d.trans y⟩
variable {e:En}
def Xl(e:En):List Nat:=T2 6 e.first.toNat++T2 1 e.count.toNat++T2 1 e.block.toNat++T2 2 e.many.toNat++T2 2 e.Ay.toNat++e.bytes
def Uo:List Nat:=List.replicate 44 0
theorem Aqu:List.replicate 44 (EV.int .u8 0)=Bj Uo:=by kernel_rfl
def Du(e:En):List Nat × Int:=if erB e=true then(Xl e,0)else(Uo,10)
theorem A1f(w:e.Wf):(Xl e).length=44:=by
 unfold Xl;simp only[aG,Gu,w.len]
theorem Bie(w:e.Wf):∀b∈Xl e,b<256:=fun b hb=>by
 unfold Xl at hb;simp only[bJ]at hb;rcases hb with((((hb|hb)|hb)|hb)|hb)|hb
 ·exact Y7 _ _ b hb
 ·exact Y7 _ _ b hb
 ·exact Y7 _ _ b hb
 ·exact Y7 _ _ b hb
 ·exact Y7 _ _ b hb
 ·exact w.u8 b hb
theorem Aio(w:e.Wf):(Du e).1.length=44:=by
 unfold Du;split
 ·exact A1f w
 ·rfl
theorem A6n(w:e.Wf):∀b∈(Du e).1,b<256:=by
 unfold Du;split
 ·exact Bie w
 ·intro b hb;rw[bL hb];decide
theorem A1b:TT.size 165=some 44/\TT.agg 165=some true:=⟨by kernel_rfl,by kernel_rfl⟩
theorem A8i(g:erB e=true):(0<=e.first/\e.first<=281474976710655)/\(0<=e.block/\e.block<=255)/\(0<=e.Ay/\e.Ay<=65535)/\(1<=e.count/\e.count<=4)/\(0<=e.many/\e.many<=256)/\(1<=e.kind/\e.kind<=3):=by
 unfold erB at g;simp only[aV]at g;obtain⟨j,m,o,d⟩:=g;have a:=Ec.1 j;have b:=Ec.1 m;have c:=Ec.1 o;refine⟨a,b,c,?_⟩;unfold Aki at d;split at d
 ·simp only[aV,aU]at d
  have:=Ec.1 d.1;omega
 ·split at d
  ·simp only[aV,aU]at d
   have:=Ec.1 d.1.2;omega
  ·split at d
   ·simp only[aV,aU]at d
    omega
   ·cases d
theorem Ap0(w:e.Wf)(hb:HB h)(hK:10000<K):
 Ok (Og K (.agg e.cells) h) fun v h'=>v=.tuple [.agg (Bj (Du e).1),I (Du e).2]/\Ext h h':=by
 have l1:e.cells[1]? = some (I e.first):=rfl;have l2:e.cells[2]? = some (I e.count):=rfl;have l3:e.cells[3]? = some (I e.block):=rfl;have l4:e.cells[4]? = some (I e.many):=rfl;have l5:e.cells[5]? = some (I e.Ay):=rfl;have Y:=En.Bm w;simp only[Og,Ab];rw[Aqu];have x1:Ext h (((h.new (.cells e.cells 131)).new (.cells (Bj Uo) 165)).new (.cells (Bj Uo) 165)):=((Ar.new _ _).Df _).Df _;have u:(((h.new (.cells e.cells 131)).new (.cells (Bj Uo) 165)).new (.cells (Bj Uo) 165)).get h.next=some (.cells e.cells 131):=by
  rw[Aw _ (by show h.next<h.next+1+1;omega),Aw _ (aL _)];exact Ad _ _
 have m:(((h.new (.cells e.cells 131)).new (.cells (Bj Uo) 165)).new (.cells (Bj Uo) 165)).get (h.next+1)=some (.cells (Bj Uo) 165):=by
  rw[Aw _ (by show h.next+1<h.next+1+1;omega)];exact Ad _ _
 have d:(((h.new (.cells e.cells 131)).new (.cells (Bj Uo) 165)).new (.cells (Bj Uo) 165)).get (h.next+2)=some (.cells (Bj Uo) 165):=Ad _ _;have n1:(((h.new (.cells e.cells 131)).new (.cells (Bj Uo) 165)).new (.cells (Bj Uo) 165)).next=h.next+3:=rfl
 rw[show(h.new (.cells e.cells 131)).next=h.next+1 from rfl,show((h.new (.cells e.cells 131)).new (.cells (Bj Uo) 165)).next=h.next+2 from rfl];generalize ((h.new (.cells e.cells 131)).new (.cells (Bj Uo) 165)).new (.cells (Bj Uo) 165)=h1 at x1 u m d n1⊢;have H:=x1.hb hb;have zl:(Bj Uo).length=44:=by rw[Bg];rfl
 have fin:∀(l:List Nat) (er:Int) (S:Aa) (kk:Aa->R),(∀h',kk h'=It TT [.c (.ptr (h.next+1) 0) 165,.v (I er)] h')->HB S->Ext h S->S.get (h.next+1)=some (.cells (Bj Uo) 165)->l.length=44->(l,er)=Du e ->
  Ok (stE 44 (.ptr (h.next+1) 0) (.agg (Bj l)) S kk) fun v h'=>v=.tuple [.agg (Bj (Du e).1),I (Du e).2]/\Ext h h':=by
  intro l er S kk al B x5 g5 hl he;have fl:(Bj l).length=44:=by rw[Bg,hl]
  refine Ok.st (Bj l) g5 rfl (by show Fz (Bj l)=44;rw[Bc,fl]) (Bk (by rw[zl];exact fl.symm)) ?_;have g6:(S.put (h.next+1) (.cells (Bj l) 165)).get (h.next+1)=some (.cells (Bj l) 165):=Ae _ _ _;rw[al,Ff g6 A1b.1 A1b.2 fl,<-he];exact .ret ⟨rfl,x5.Aq (.inr (by omega)) (B _ _ g5) _⟩
 rw[Cw u rfl,Ak Y];simp only[Gx];refine(Axz (K:=K) w).Ap ?_;rintro _ h2 ⟨rfl,V⟩;have D:=V.hb H;have Z:=x1.trans V;have u:=V.at H u;have m:=V.at H m;have d:=V.at H d;have n2:h.next+3<=h2.next:=by have:=V.next;omega
 unfold Du at fin⊢;cases hr:erB e with
 | false=>
  rw[hr]at fin;simp only[Ab,aX,ak]at fin⊢;rw[Cw d rfl,Ak zl];simp only[Gx];exact fin Uo 10 h2 _ (fun _=>rfl) D Z m rfl rfl
 | true=>
 rw[hr]at fin;simp only[Ab,bI,Abv]at fin⊢;obtain⟨⟨a1,b1⟩,⟨a2,b2⟩,⟨a3,b3⟩,⟨a4,b4⟩,⟨a5,b5⟩,_⟩:=A8i hr;have p0:A0m (h2.new (.cells [.Ao,.bool false] 233)) h2.next 233 [] false:=⟨.Ao,0,Ad _ _,.nil _ _ _ _,fun y=>absurd y (bO _)⟩
 have W:Ext h2 (h2.new (.cells [.Ao,.bool false] 233)):=Ar.new _ _;have u:=W.at D u;have m:=W.at D m;have d:=W.at D d;have E:=W.hb D;have aa:=Z.trans W;generalize h2.new (.cells [.Ao,.bool false] 233)=h3 at p0 W u m d E aa⊢;generalize hP:h2.next=P at p0 n2⊢
 have up:∀{X hc:Aa},Ext h X->Ar (fun i=>P<=i) X hc->Ext h hc:=fun x c=>x.then c fun j hj hl=>by
  have hj:P<=j:=hj;omega
 have A:∀{X hc:Aa} {i:Nat} {o:Dt},Ar (fun i=>P<=i) X hc->HB X->X.get i=some o->i<P->hc.get i=some o:=fun c hb g hi=>c.at hb g (by omega)
 rw[Cs u rfl,l1];simp only[Gx];refine(Lh (K:=K) (w:=6) (by omega) p0 E (by simp) (by decide) (by decide) (v:=e.first) (by omega)).Ap ?_;rintro _ S ⟨p,c,B⟩;rw[Vt (b:=281474976710655) a1 b1 (by decide),aH rfl]at p;have x5:=up aa c;have u:=A c E u (by omega);have m:=A c E m (by omega);have d:=A c E d (by omega);rw[Cs u rfl,l2];simp only[Gx];refine(Lh (K:=K) (w:=1) (by omega) p B (by simp[Gu]) (by decide) (by decide) (v:=e.count) (by omega)).Ap ?_;rintro _ h6 ⟨p,c,J⟩;rw[Vt (b:=4) (by omega) b4 (by decide),aH rfl]at p;have x6:=up x5 c;have u:=A c B u (by omega);have m:=A c B m (by omega);have d:=A c B d (by omega);rw[Cs u rfl,l3];simp only[Gx];refine(Lh (K:=K) (w:=1) (by omega) p J (by simp[Gu]) (by decide) (by decide) (v:=e.block) (by omega)).Ap ?_;rintro _ h7 ⟨p,c,L⟩;rw[Vt (b:=255) a2 b2 (by decide),aH rfl]at p;have x7:=up x6 c;have u:=A c J u (by omega);have m:=A c J m (by omega);have d:=A c J d (by omega);rw[Cs u rfl,l4];simp only[Gx];refine(Lh (K:=K) (w:=2) (by omega) p L (by simp[Gu]) (by decide) (by decide) (v:=e.many) (by omega)).Ap ?_;rintro _ h8 ⟨p,c,M⟩;rw[Vt (b:=256) a5 b5 (by decide),aH rfl]at p;have x8:=up x7 c;have u:=A c L u (by omega);have m:=A c L m (by omega);have d:=A c L d (by omega);rw[Cs u rfl,l5];simp only[Gx];refine(Lh (K:=K) (w:=2) (by omega) p M (by simp[Gu]) (by decide) (by decide) (v:=e.Ay) (by omega)).Ap ?_;rintro _ h9 ⟨p,c,T⟩;rw[Vt (b:=65535) a3 b3 (by decide),aH rfl]at p;have x9:=up x8 c;have u:=A c M u (by omega);have m:=A c M m (by omega);have d:=A c M d (by omega)
 try simp only[Ab]
 rw[show ∀k:EV->R,Ps 32 1 (.ptr h.next 6) none none none k=k (.slice h.next 6 32 32 false)from fun k=>rfl];have au:Oq h9 1 32 (.slice h.next 6 32 32 false)=some (Bj e.bytes):=by
  show Xy h9 h.next 6 32=_
  unfold Xy Ash;rw[u];show Mo e.cells 6 32=_;rw[E7 (by rw[Y];decide)];show some (List.take 32 (Bj e.bytes))=_;rw[bQ (by rw[Bg,w.len];decide)]
 refine(Atv (K:=K) (n:=32) p T (by simp[Gu]) rfl (by decide) (by decide) au w.len).Ap ?_;rintro _ b6 ⟨p,c,F⟩;have aw:=up x9 c;have m:=A c T m (by omega);have d:=A c T d (by omega);have ep:([]++T2 6 e.first.toNat++T2 1 e.count.toNat++T2 1 e.block.toNat++T2 2 e.many.toNat++T2 2 e.Ay.toNat++e.bytes)=Xl e:=by
  unfold Xl;rw[dQ]
 have ad:∀b:Bool,(b||!true)=b:=by decide
 rw[ep]at p;simp only[ad]at p;have C:=A1f w;refine(Azb (K:=K) p F (by rw[C];decide)).Ap ?_;rintro _ U ⟨y,q',rfl,ry,G,O,lq⟩;have m:=G.at F m;have d:=G.at F d;have ae:=aw.trans G;simp only[Ab];rw[show ∀k:EV->R,Ps 44 1 (.ptr (h.next+2) 0) none none none k=k (.slice (h.next+2) 0 44 44 false)from fun k=>rfl];have af:=ry.bs (by rw[C];decide);have hlen:=af.len;have Q:=af.cells;rw[C]at hlen Q;have ag:=A2u (h:=U) (i:=h.next+2) (n:=44) (r:=44) (op:=false) (t:=165) (hd:=[]) (Bt:=Bj Uo) d hlen (by decide) Q (by rw[Bg,C]) zl;rw[show([]:List EV).length=0 from rfl,dQ]at ag;rw[ag,As];have ah:=O _ _ d;have d:(U.put (h.next+2) (.cells (Bj (Xl e)) 165)).get (h.next+2)=some (.cells (Bj (Xl e)) 165):=Ae _ _ _;have m:(U.put (h.next+2) (.cells (Bj (Xl e)) 165)).get (h.next+1)=some (.cells (Bj Uo) 165):=by rw[Af _];exact m
 rw[Cw d rfl,Ak (by rw[Bg,C])];simp only[Gx];exact fin (Xl e) 0 _ _ (fun _=>rfl) (O.put ah _) (ae.Aq (.inr (by omega)) ah _) m C rfl
theorem Bac(a b c d e:Int){l:List EV}(g:l.length=44):Zr (Dh [(0,1),(1,1),(2,1),(3,1),(4,1),(5,44)]) [(0,I a),(1,I b),(2,I c),(3,I d),(4,I e),(5,.agg l)] Fr.zero.cells=some ([I a,I b,I c,I d,I e]++l):=by
 have hs:=Ai9 [I a,I b,I c,I d,I e] (Bj (List.replicate 44 0)) l (by rw[Bg,bV,g]);rw[<-Ue]at hs;show Ba (Nat.beq (Fz l) 44) (oB (fun z=>some z) (L7 ([I a,I b,I c,I d,I e]++Bj (List.replicate 44 0)) 5 l)) none=_;rw[Bc,g,cK,Aj];rw[show(5:Nat) = [I a,I b,I c,I d,I e].length from rfl,hs];rfl
def Ee(e:En)(Ah off Am seq:Int):Fr × Int:=
 if erB e=true/\frB ⟨e.kind,Ah,off,Am,seq,(Du e).1⟩=true/\e.first<=seq/\seq-e.count<e.first then(⟨e.kind,Ah,off,Am,seq,(Du e).1⟩,0)else(Fr.zero,10)
theorem Aul(w:e.Wf)(Ah off Am seq:Int):(Ee e Ah off Am seq).1.Wf:=by
 unfold Ee;split
 ·exact⟨Aio w,A6n w⟩
 ·exact Fr.Gs
theorem Ae4(w:e.Wf)(hb:HB h)(hK:10000<K)(Ah off Am seq:Int):
 Ok (J5 K (.agg e.cells) (I Ah) (I off) (I Am) (I seq) h) fun v h'=>v=.tuple [.agg (Ee e Ah off Am seq).1.cells,I (Ee e Ah off Am seq).2]/\Ext h h':=by
 have l0:e.cells[0]? = some (I e.kind):=rfl;have l1:e.cells[1]? = some (I e.first):=rfl;have l2:e.cells[2]? = some (I e.count):=rfl;have ab:=En.Bm w;have zl:=Fr.Bm Fr.Gs;have F:(⟨e.kind,Ah,off,Am,seq,(Du e).1⟩:Fr).Wf:=⟨Aio w,A6n w⟩;have fl:=Fr.Bm F;simp only[J5,Ab];rw[Fr.Hq];have x1:Ext h ((h.new (.cells e.cells 131)).new (.cells Fr.zero.cells 167)):=(Ar.new _ _).Df _;have g:((h.new (.cells e.cells 131)).new (.cells Fr.zero.cells 167)).get h.next=some (.cells e.cells 131):=by
  rw[Aw _ (aL _)];exact Ad _ _
 have d:((h.new (.cells e.cells 131)).new (.cells Fr.zero.cells 167)).get (h.next+1)=some (.cells Fr.zero.cells 167):=Ad _ _;have n1:((h.new (.cells e.cells 131)).new (.cells Fr.zero.cells 167)).next=h.next+2:=rfl
 rw[show(h.new (.cells e.cells 131)).next=h.next+1 from rfl];generalize (h.new (.cells e.cells 131)).new (.cells Fr.zero.cells 167)=h1 at x1 g d n1⊢;have C:=x1.hb hb;have fin:∀(f:Fr) (er:Int) (u:Aa) (kk:Aa->R),(∀h',kk h'=It TT [.c (.ptr (h.next+1) 0) 167,.v (I er)] h')->HB u->Ext h u->u.get (h.next+1)=some (.cells Fr.zero.cells 167)->f.Wf->(f,er)=Ee e Ah off Am seq ->
  Ok (stE 49 (.ptr (h.next+1) 0) (.agg f.cells) u kk) fun v h'=>v=.tuple [.agg (Ee e Ah off Am seq).1.cells,I (Ee e Ah off Am seq).2]/\Ext h h':=by
  intro f er u kk af A G g wf he;have fl:=Fr.Bm wf;refine Ok.st f.cells g rfl (by show Fz f.cells=49;rw[Bc,fl]) (Bk (by rw[zl];exact fl.symm)) ?_;have g6:(u.put (h.next+1) (.cells f.cells 167)).get (h.next+1)=some (.cells f.cells 167):=Ae _ _ _;rw[af,Ff g6 A0n.1 A0n.2 fl,<-he];exact .ret ⟨rfl,G.Aq (.inr (by omega)) (A _ _ g) _⟩
 rw[Cw g rfl,Ak ab];simp only[Gx];refine(Ap0 (K:=K) w C hK).Ap ?_;rintro _ h2 ⟨rfl,O⟩;have H:=O.hb C;have ag:=x1.trans O;have g:=O.at C g;have d:=O.at C d;have n2:h.next+2<=h2.next:=by have:=O.next;omega
 simp only[Ab];rw[Aqu];have S:Ext h2 (h2.new (.cells (Bj Uo) 165)):=Ar.new _ _;have m:(h2.new (.cells (Bj Uo) 165)).get h2.next=some (.cells (Bj Uo) 165):=Ad _ _
 have g:=S.at H g;have d:=S.at H d;have J:=S.hb H;have T:=ag.trans S;have n3:(h2.new (.cells (Bj Uo) 165)).next=h2.next+1:=rfl
 generalize h2.new (.cells (Bj Uo) 165)=M at S m g d J T n3⊢;generalize h2.next=P at m n2 n3⊢
 have bl:(Bj (Du e).1).length=44:=by rw[Bg,Aio w]
 refine Ok.st (Bj (Du e).1) m rfl (by show Fz (Bj (Du e).1)=44;rw[Bc,bl]) (Bk (by rw[Bg];exact bl.symm)) ?_;have U:=J _ _ m;have m:(M.put P (.cells (Bj (Du e).1) 165)).get P=some (.cells (Bj (Du e).1) 165):=Ae _ _ _;have g:(M.put P (.cells (Bj (Du e).1) 165)).get h.next=some (.cells e.cells 131):=by rw[Af _];exact g
 have d:(M.put P (.cells (Bj (Du e).1) 165)).get (h.next+1)=some (.cells Fr.zero.cells 167):=by rw[Af _];exact d
 have x4:Ext h (M.put P (.cells (Bj (Du e).1) 165)):=T.Aq (.inr (by omega)) U _;have D:=J.put U (.cells (Bj (Du e).1) 165);have n4:(M.put P (.cells (Bj (Du e).1) 165)).next=P+1:=n3
 generalize M.put P (.cells (Bj (Du e).1) 165)=h4 at m g d x4 D n4⊢
 try simp only[Ab]
 rw[Cs g rfl,l0];simp only[Gx];rw[Cw m rfl,Ak bl];simp only[Gx]
 try rw[Fr.Hq]
 rw[Ax (Bac e.kind Ah off Am seq bl)]
 try simp only[Ab]
 have G:Ext h4 (h4.new (.cells Fr.zero.cells 167)):=Ar.new _ _;have j:(h4.new (.cells Fr.zero.cells 167)).get h4.next=some (.cells Fr.zero.cells 167):=Ad _ _
 have g:=G.at D g;have d:=G.at D d;have A:=G.hb D;have V:=x4.trans G;generalize h4.new (.cells Fr.zero.cells 167)=u at G j g d A V⊢;generalize h4.next=Q at j n4⊢
 refine Ok.st (⟨e.kind,Ah,off,Am,seq,(Du e).1⟩:Fr).cells j rfl (by show Fz (⟨e.kind,Ah,off,Am,seq,(Du e).1⟩:Fr).cells=49;rw[Bc,fl]) (Bk (by rw[zl];exact fl.symm)) ?_;have W:=A _ _ j;have j:(u.put Q (.cells (⟨e.kind,Ah,off,Am,seq,(Du e).1⟩:Fr).cells 167)).get Q=some (.cells (⟨e.kind,Ah,off,Am,seq,(Du e).1⟩:Fr).cells 167):=Ae _ _ _;have g:(u.put Q (.cells (⟨e.kind,Ah,off,Am,seq,(Du e).1⟩:Fr).cells 167)).get h.next=some (.cells e.cells 131):=by rw[Af _];exact g
 have d:(u.put Q (.cells (⟨e.kind,Ah,off,Am,seq,(Du e).1⟩:Fr).cells 167)).get (h.next+1)=some (.cells Fr.zero.cells 167):=by rw[Af _];exact d
 have x6:Ext h (u.put Q (.cells (⟨e.kind,Ah,off,Am,seq,(Du e).1⟩:Fr).cells 167)):=V.Aq (.inr (by omega)) W _;have o:=A.put W (.cells (⟨e.kind,Ah,off,Am,seq,(Du e).1⟩:Fr).cells 167);generalize u.put Q (.cells (⟨e.kind,Ah,off,Am,seq,(Du e).1⟩:Fr).cells 167)=h6 at j g d x6 o⊢;have ai:(Du e).2=if erB e=true then 0 else 10:=by unfold Du;split<;>rfl
 rw[ai];unfold Ee at fin⊢;generalize aj:(⟨e.kind,Ah,off,Am,seq,(Du e).1⟩:Fr)=f at fin F fl j⊢;have no:∀E:Aa,Ext h6 E->¬(erB e=true/\frB f=true/\e.first<=seq/\seq-e.count<e.first)->Ok (Bq (Dh [(0,1),(1,1),(2,1),(3,1),(4,1),(5,44)]) Fr.zero.cells [] fun al=>stE 49 (.ptr (h.next+1) 0) al E fun z=>It TT [.c (.ptr (h.next+1) 0) 167,.v (.int .i64 10)] z) _:=fun E B ao=>by
  rw[Ax (l:=Fr.zero.cells) rfl];exact fin Fr.zero 10 E _ (fun _=>rfl) (B.hb o) (x6.trans B) (B.at o d) Fr.Gs (by rw[aF ao])
 simp only[I,Ac];by_cases X:erB e=true
 ·rw[aH X]
  simp only[aC,aA,Ab];rw[Cw j rfl,Ak fl];simp only[Gx];refine(Adw (K:=K) f).Ap ?_;rintro _ E ⟨rfl,B⟩;have g:=B.at o g;cases hf:frB f with
  | false=>
   simp only[Ab,Ac,Mn,Ji,Hd];have r:=no E B (by rw[hf];simp);rw[hf]at r;exact r
  | true=>
   have L:=hf;rw[<-aj]at L;simp only[frB,aV]at L;have a1:=Ec.1 L.2.2.2.2;have a2:=(A8i X).2.2.2.1;have rr:=no E B;have rf:=fin f 0 E (fun z=>It TT [RV.c (EV.ptr (h.next+1) 0) 167,RV.v (EV.int IntKind.i64 0)] z) (fun _=>rfl) (B.hb o) (x6.trans B) (B.at o d) F;rw[hf]at rr rf;simp only[eq_self]at rr rf;simp only[Ab,Ac,Mn];rw[Cs g rfl,l1];simp only[Gx,I,Ac];by_cases Y:seq<e.first
   ·rw[show decide (seq<e.first)=true from aP Y]
    simp only[Ab,Ac,Ji,Hd];exact rr fun y=>by omega
   ·rw[show decide (seq<e.first)=false from aO Y]
    simp only[Ab,Ac,Ji];rw[Cs g rfl,l1];simp only[Gx];rw[Cs g rfl,l2];simp only[Gx,I,Ac];rw[Cq];by_cases Z:e.first<=seq-e.count
    ·rw[show decide (e.first<=seq-e.count)=true from aP Z]
     simp only[Ab,Ac,Hd];exact rr fun y=>by omega
    ·rw[show decide (e.first<=seq-e.count)=false from aO Z]
     simp only[Ab,Ac,Hd,Aax];rw[Cw (B.at o j) rfl,Ak fl];exact rf (by rw[aH ⟨X,trivial,by omega,by omega⟩])
 ·rw[aF X]
  simp only[show ¬((10:Int)=0) by decide,aN,aB,Ab,Ac,Mn,Ji,Hd];exact no h6 (Ar.refl _) fun y=>X y.1
def En.zero:En:=⟨0,0,0,0,0,0,Dd⟩
theorem En.Hq:List.replicate 6 (EV.int .i64 0)++List.replicate 32 (EV.int .u8 0)=En.zero.cells:=by kernel_rfl
theorem En.Gs:En.zero.Wf:=⟨rfl,fun b hb=>by rw[bL hb];decide⟩
theorem Bbg:TT.size 131=some 38/\TT.agg 131=some true:=⟨by kernel_rfl,by kernel_rfl⟩
def Zc(kind:Int)(p:List Nat):En:=⟨kind,Vq (p.take 6),Vq ((p.drop 6).take 1),Vq (((p.drop 6).drop 1).take 1),Vq ((((p.drop 6).drop 1).drop 1).take 2),Vq (((((p.drop 6).drop 1).drop 1).drop 2).take 2),((((((p.drop 6).drop 1).drop 1).drop 2).drop 2).take 32)⟩
theorem Axl(hp:p.length=44)(hu:∀b∈p,b<256):(Zc kind p).Wf:=by
 refine⟨?_,fun b hb=>hu b ?_⟩
 ·simp only[Zc,b9,bT,hp];decide
 ·simp only[Zc]at hb
  exact aS (aS (aS (aS (aS (bc hb)))))
def ofF(kind:Int)(p:List Nat):En × Int:=
 if(Du (Zc kind p)).2=0/\(Du (Zc kind p)).1=p then(Zc kind p,0)else(En.zero,10)
theorem Bid(hp:p.length=44)(hu:∀b∈p,b<256):(ofF kind p).1.Wf:=by
 unfold ofF;split
 ·exact Axl hp hu
 ·exact En.Gs
theorem Bar(k:Int)(a b c d e:Nat):Zr (Dh [(0,1),(1,1),(2,1),(3,1),(4,1),(5,1),(6,32)]) [(0,I k),(1,Nk .i64 a),(2,Nk .i64 b),(3,Nk .i64 c),(4,Nk .i64 d),(5,Nk .i64 e)] En.zero.cells=some ([I k,Nk .i64 a,Nk .i64 b,Nk .i64 c,Nk .i64 d,Nk .i64 e]++Bj Dd):=rfl
theorem A7f(hp:p.length=44)(hu:∀b∈p,b<256)(hb:HB h)(hK:10000<K)(kind:Int):
 Ok (Atq K (I kind) (.agg (Bj p)) h) fun v h'=>v=.tuple [.agg (ofF kind p).1.cells,I (ofF kind p).2]/\Ext h h':=by
 have zl:=En.Bm En.Gs;have ul:(Bj p).length=44:=by rw[Bg,hp]
 simp only[Atq,Ab];rw[En.Hq];have x1:Ext h ((h.new (.cells (Bj p) 165)).new (.cells En.zero.cells 131)):=(Ar.new _ _).Df _;have d:((h.new (.cells (Bj p) 165)).new (.cells En.zero.cells 131)).get h.next=some (.cells (Bj p) 165):=by
  rw[Aw _ (aL _)];exact Ad _ _
 have m:((h.new (.cells (Bj p) 165)).new (.cells En.zero.cells 131)).get (h.next+1)=some (.cells En.zero.cells 131):=Ad _ _;have n1:((h.new (.cells (Bj p) 165)).new (.cells En.zero.cells 131)).next=h.next+2:=rfl
 rw[show(h.new (.cells (Bj p) 165)).next=h.next+1 from rfl];generalize (h.new (.cells (Bj p) 165)).new (.cells En.zero.cells 131)=h1 at x1 d m n1⊢;have a4:=x1.hb hb;have wfE:=Axl (kind:=kind) hp hu;have fin:∀(e:En) (er:Int) (h5:Aa) (kk:Aa->R),(∀h',kk h'=It TT [.c (.ptr (h.next+1) 0) 131,.v (I er)] h')->HB h5->Ext h h5->h5.get (h.next+1)=some (.cells En.zero.cells 131)->e.Wf->(e,er)=ofF kind p ->
  Ok (stE 38 (.ptr (h.next+1) 0) (.agg e.cells) h5 kk) fun v h'=>v=.tuple [.agg (ofF kind p).1.cells,I (ofF kind p).2]/\Ext h h':=by
  intro e er h5 kk ct X x5 g5 wf he;have fl:=En.Bm wf;refine Ok.st e.cells g5 rfl (by show Fz e.cells=38;rw[Bc,fl]) (Bk (by rw[zl];exact fl.symm)) ?_;have g6:(h5.put (h.next+1) (.cells e.cells 131)).get (h.next+1)=some (.cells e.cells 131):=Ae _ _ _;rw[ct,Ff g6 Bbg.1 Bbg.2 fl,<-he];exact .ret ⟨rfl,x5.Aq (.inr (by omega)) (X _ _ g5) _⟩
 rw[show ∀k:EV->R,Ps 44 1 (.ptr h.next 0) none none none k=k (.slice h.next 0 44 44 false)from fun k=>rfl];have bs:Bs h1 (.slice h.next 0 44 44 false) h.next 0 p:=by
  refine⟨44,false,_,Bj p,by rw[hp],by omega,d,rfl,by rw[ul];omega,?_⟩;rw[dF,hp,<-ul,cO]
 refine(Asx (K:=K) bs a4 (by omega) (by omega)).Ap ?_;rintro _ h5 ⟨Rr,q,rfl,d0,x5,X,dx⟩;have d:=x5.at a4 d;have m:=x5.at a4 m;have cv:=x1.trans x5;have dy:Rr<h5.next:=by obtain⟨_,g,_⟩:=d0.Ow;exact X _ _ g
 have ea:h.next+1<Rr:=by have:=d0.ne;omega
 have up:∀{Y hc:Aa},Ext h Y->Ar (fun i=>i=Rr) Y hc->Ext h hc:=fun x c=>x.then c fun j hj cw=>by
  have hj:j=Rr:=hj;omega
 have Ju:∀{Y hc:Aa} {i:Nat} {o:Dt},Ar (fun i=>i=Rr) Y hc->HB Y->Y.get i=some o->i≠Rr->hc.get i=some o:=fun c hb g hi=>c.at hb g hi
 refine(Ad6 (K:=K) (w:=6) d0 X (by omega) (by decide) (by decide) (by omega) hu).Ap ?_;rintro _ h6 ⟨rfl,d1,c6,a5⟩;have d:=Ju c6 X d (by omega);have m:=Ju c6 X m (by omega);have x6:=up cv c6;refine(Ad6 (K:=K) (w:=1) d1 a5 (by omega) (by decide) (by decide) (by simp only[bT];omega) (fun b hb=>hu b (aS hb))).Ap ?_;rintro _ h7 ⟨rfl,d2,c7,a6⟩;have d:=Ju c7 a5 d (by omega);have m:=Ju c7 a5 m (by omega);have x7:=up x6 c7;refine(Ad6 (K:=K) (w:=1) d2 a6 (by omega) (by decide) (by decide) (by simp only[bT];omega) (fun b hb=>hu b (aS (aS hb)))).Ap ?_;rintro _ h8 ⟨rfl,d3,c8,a7⟩;have d:=Ju c8 a6 d (by omega);have m:=Ju c8 a6 m (by omega);have x8:=up x7 c8;refine(Ad6 (K:=K) (w:=2) d3 a7 (by omega) (by decide) (by decide) (by simp only[bT];omega) (fun b hb=>hu b (aS (aS (aS hb))))).Ap ?_;rintro _ h9 ⟨rfl,d4,c9,ba⟩;have d:=Ju c9 a7 d (by omega);have m:=Ju c9 a7 m (by omega);have x9:=up x8 c9;refine(Ad6 (K:=K) (w:=2) d4 ba (by omega) (by decide) (by decide) (by simp only[bT];omega) (fun b hb=>hu b (aS (aS (aS (aS hb)))))).Ap ?_;rintro _ M ⟨rfl,d5,au,V⟩;have d:=Ju au ba d (by omega);have m:=Ju au ba m (by omega);have cy:=up x9 au
 try rw[En.Hq]
 rw[Ax (Bar kind _ _ _ _ _)]
 try simp only[Ab]
 have Z:Ext M (M.new (.cells En.zero.cells 131)):=Ar.new _ _;have G:(M.new (.cells En.zero.cells 131)).get M.next=some (.cells En.zero.cells 131):=Ad _ _
 have bo:(M.new (.cells En.zero.cells 131)).next=M.next+1:=rfl
 have d:=Z.at V d;have m:=Z.at V m;have H:=Z.hb V;have d5:=d5.ext V Z;have bp:=cy.trans Z;have hF:Rr<M.next:=by have:=c6.next;have:=c7.next;have:=c8.next;have:=c9.next;have:=au.next;omega
 generalize M.new (.cells En.zero.cells 131)=ae at Z G bo d m H d5 bp⊢;generalize M.next=O at G bo hF⊢
 have F:(((((p.drop 6).drop 1).drop 1).drop 2).drop 2).length=32:=by simp only[bT];omega
 unfold ofF Zc at fin⊢;unfold Zc at wfE;generalize (((((p.drop 6).drop 1).drop 1).drop 2).drop 2)=body at d5 F fin wfE⊢;generalize Vq (p.take 6)=u at fin wfE⊢;generalize Vq ((p.drop 6).take 1)=A at fin wfE⊢;generalize Vq (((p.drop 6).drop 1).take 1)=B at fin wfE⊢;generalize Vq ((((p.drop 6).drop 1).drop 1).take 2)=C at fin wfE⊢;generalize Vq (((((p.drop 6).drop 1).drop 1).drop 2).take 2)=D at fin wfE⊢;have bt:body.take 32=body:=bQ (by omega);rw[bt]at fin wfE⊢;have a0:([I kind,Nk .i64 u,Nk .i64 A,Nk .i64 B,Nk .i64 C,Nk .i64 D]++Bj Dd).length=38:=by rw[aG,Bg];rfl
 refine Ok.st ([I kind,Nk .i64 u,Nk .i64 A,Nk .i64 B,Nk .i64 C,Nk .i64 D]++Bj Dd) G rfl (by show Fz ([I kind,Nk .i64 u,Nk .i64 A,Nk .i64 B,Nk .i64 C,Nk .i64 D]++Bj Dd)=38;rw[Bc,a0]) (Bk (by rw[zl];exact a0.symm)) ?_;have lF:=H _ _ G;have af:Ar (fun i=>i=O) ae (ae.put O (.cells ([I kind,Nk .i64 u,Nk .i64 A,Nk .i64 B,Nk .i64 C,Nk .i64 D]++Bj Dd) 131)):=(Ar.refl (S:=fun i=>i=O) ae).Aq (.inl rfl) lF _;have G:(ae.put O (.cells ([I kind,Nk .i64 u,Nk .i64 A,Nk .i64 B,Nk .i64 C,Nk .i64 D]++Bj Dd) 131)).get O=some (.cells ([I kind,Nk .i64 u,Nk .i64 A,Nk .i64 B,Nk .i64 C,Nk .i64 D]++Bj Dd) 131):=Ae _ _ _;have J:=H.put lF (.cells ([I kind,Nk .i64 u,Nk .i64 A,Nk .i64 B,Nk .i64 C,Nk .i64 D]++Bj Dd) 131);generalize ae.put O (.cells ([I kind,Nk .i64 u,Nk .i64 A,Nk .i64 B,Nk .i64 C,Nk .i64 D]++Bj Dd) 131)=cz at af G J⊢;have bu:∀{Y hc:Aa},Ext h Y->Ar (fun i=>i=O) Y hc->Ext h hc:=fun x c=>x.then c fun j hj cw=>by
  have hj:j=O:=hj;omega
 have Q:∀{Y hc:Aa} {i:Nat} {o:Dt},Ar (fun i=>i=O) Y hc->HB Y->Y.get i=some o->i≠O->hc.get i=some o:=fun c hb g hi=>c.at hb g hi
 have d:=Q af H d (by omega);have m:=Q af H m (by omega);have d5:=d5.chg H af (by have:=d5.ne;intro y;omega) (by intro y;omega);have cG:=bu bp af
 try simp only[Ab]
 rw[show ∀k:EV->R,Ps 32 1 (.ptr O 6) none none none k=k (.slice O 6 32 32 false)from fun k=>rfl];have dl:Rd cz.lift Rr q (0+6+1+1+2+2) body:=d5.chg J (S:=fun _=>False) ⟨fun i _ _=>By _ _,aE _,fun w _ w2 _=>w2,fun y=>Dg y⟩ id id;refine Ok.bC (S:=fun i=>i=Rr) (A52 (K:=K) (n:=32) dl (Dg J) (by decide) (by omega)) (fun _ _ p=>p.2.2.1) ?_;rintro bw di ag s' ⟨ah,_,_,bb⟩ a1 aw bf;have W:=a1.hb bb;have ah:=ah.frame (a1.get _);rw[bt]at ah;have d:=Ju aw J d (by omega);have m:=Ju aw J m (by omega);have G:=Ju aw J G (by omega);have cT:=up cG aw;have hlen:lenOf bw=some 32:=by have:=ah.len;rw[F]at this;exact this
 have bx:Oq ag.lift 1 32 bw=some (Bj body):=by have:=ah.lift.cells;rw[F]at this;exact this
 have c0:=A2u (h:=ag.lift) (i:=O) (n:=32) (r:=32) (op:=false) (t:=131) (hd:=[I kind,Nk .i64 u,Nk .i64 A,Nk .i64 B,Nk .i64 C,Nk .i64 D]) (Bt:=Bj Dd) (by rw[By];exact G) hlen (by decide) bx (by rw[Bg,F]) (by rw[Bg];rfl);have bz:=W _ _ G;refine Ok.Bgr (S:=fun i=>i=O) (by rcases bf with rfl|⟨w,rfl,_⟩<;>kernel_rfl) (by rcases bf with rfl|⟨w,rfl,_⟩<;>kernel_rfl) (fun w=>by rcases bf with rfl|⟨w,rfl,_⟩<;>kernel_rfl) (P:=fun v h'=>h'=ag.lift.put O (.cells ([I kind,Nk .i64 u,Nk .i64 A,Nk .i64 B,Nk .i64 C,Nk .i64 D]++Bj body) 131)) ⟨_,_,c0,rfl⟩ (fun _ _ p=>by rw[p];exact(Ar.refl (S:=fun i=>i=O) ag.lift).Aq (.inl rfl) (show O<ag.lift.next from bz) _) ?_;rintro eg dj c5 s2 rfl b5 ax _;have T:=ax.hb W;have G:c5.get O=some (.cells (⟨kind,u,A,B,C,D,body⟩:En).cells 131):=by rw[b5.get];exact Ae _ _ _
 have d:=Q ax W d (by omega);have m:=Q ax W m (by omega);have da:=bu cT ax;generalize hE:(⟨kind,u,A,B,C,D,body⟩:En)=E at fin wfE G⊢;have el:=En.Bm wfE;rw[Cw G rfl,Ak el];simp only[Gx];refine(Ap0 (K:=K) wfE T hK).Ap ?_;rintro _ U ⟨rfl,ai⟩;have L:=ai.hb T;have d:=ai.at T d;have m:=ai.at T m;have G:=ai.at T G;have a2:=da.trans ai;have b6:=L _ _ G
 try simp only[Ab]
 rw[Aqu];have aa:Ext U (U.new (.cells (Bj Uo) 165)):=Ar.new _ _;have g8:(U.new (.cells (Bj Uo) 165)).get U.next=some (.cells (Bj Uo) 165):=Ad _ _
 have d:=aa.at L d;have m:=aa.at L m;have G:=aa.at L G;have aj:=aa.hb L;have a3:=a2.trans aa;have b7:h.next+2<=U.next:=by have:=x1.next;have:=a2.next;have:=L _ _ (by assumption:U.get (h.next+1)=some (.cells En.zero.cells 131));omega
 generalize U.new (.cells (Bj Uo) 165)=ab at aa g8 d m G aj a3⊢;generalize U.next=P at g8 b6 b7⊢
 have bl:(Bj (Du E).1).length=44:=by rw[Bg,Aio wfE]
 refine Ok.st (Bj (Du E).1) g8 rfl (by show Fz (Bj (Du E).1)=44;rw[Bc,bl]) (Bk (by rw[Bg];exact bl.symm)) ?_;have l8:=aj _ _ g8;have g8:(ab.put P (.cells (Bj (Du E).1) 165)).get P=some (.cells (Bj (Du E).1) 165):=Ae _ _ _;have d:(ab.put P (.cells (Bj (Du E).1) 165)).get h.next=some (.cells (Bj p) 165):=by rw[Af _];exact d
 have m:(ab.put P (.cells (Bj (Du E).1) 165)).get (h.next+1)=some (.cells En.zero.cells 131):=by rw[Af _];exact m
 have G:(ab.put P (.cells (Bj (Du E).1) 165)).get O=some (.cells E.cells 131):=by rw[Af _];exact G
 have al:Ext h (ab.put P (.cells (Bj (Du E).1) 165)):=a3.Aq (.inr (by omega)) l8 _;have ao:=aj.put l8 (.cells (Bj (Du E).1) 165);generalize ab.put P (.cells (Bj (Du E).1) 165)=bk at g8 d m G al ao⊢;simp only[I,Ac];have no:¬((Du E).2=0/\(Du E).1=p)->Ok (Bq (Dh [(0,1),(1,1),(2,1),(3,1),(4,1),(5,1),(6,32)]) En.zero.cells [] fun db=>stE 38 (.ptr (h.next+1) 0) db bk fun z=>It TT [.c (.ptr (h.next+1) 0) 131,.v (.int .i64 10)] z) _:=fun de=>by
  rw[Ax (l:=En.zero.cells) rfl];exact fin En.zero 10 bk _ (fun _=>rfl) ao al m En.Gs (by rw[aF de])
 by_cases h0:(Du E).2=0
 ·rw[show decide (¬(Du E).2=0)=false from aO fun y=>y h0]
  simp only[Ab];rw[Cw g8 rfl,Ak bl];simp only[Gx];rw[Cw d rfl,Ak ul];simp only[Gx];rw[Bdb Bo0 (Aio wfE) hp];by_cases ay:(Du E).1=p
  ·rw[show decide (¬(Du E).1=p)=false from aO fun y=>y ay]
   simp only[Ahl,Ab,Avs];rw[Cw G rfl,Ak el];exact fin E 0 bk _ (fun _=>rfl) ao al m wfE (by rw[aH ⟨h0,ay⟩])
  ·rw[show decide (¬(Du E).1=p)=true from aP ay]
   simp only[Ahl,Ab];exact no fun y=>ay y.2
 ·rw[show decide (¬(Du E).2=0)=true from aP h0]
  simp only[Ab,Ahl];exact no fun y=>h0 y.1
def T7(f:Fr):En × Int:=
 if ¬(ofF f.kind f.body).2=0 then(En.zero,(ofF f.kind f.body).2)else
 if ¬(Ee (ofF f.kind f.body).1 f.Ah f.off f.Am f.seq).2=0 then(En.zero,(Ee (ofF f.kind f.body).1 f.Ah f.off f.Am f.seq).2)else((ofF f.kind f.body).1,0)
theorem Azz(w:f.Wf)(hb:HB h)(X:10000<K):
 Ok (Aj4 K (.agg f.cells) h) fun v h'=>v=.tuple [.agg (T7 f).1.cells,I (T7 f).2]/\(T7 f).1.Wf/\Ext h h':=by
 have l0:f.cells[0]? = some (I f.kind):=rfl;have l1:f.cells[1]? = some (I f.Ah):=rfl;have Z:f.cells[2]? = some (I f.off):=rfl;have l3:f.cells[3]? = some (I f.Am):=rfl;have l4:f.cells[4]? = some (I f.seq):=rfl;have Q:=Fr.Bm w;have l5:Mo f.cells 5 44=some (Bj f.body):=by
  rw[E7 (by rw[Q];decide)];show some (List.take 44 (Bj f.body))=_;rw[bQ (by rw[Bg,w.len];decide)]
 have zl:=En.Bm En.Gs;have o:=Bid (kind:=f.kind) w.len w.u8;have ol:=En.Bm o;simp only[Aj4,Ab];rw[En.Hq];have S:Ext h ((h.new (.cells f.cells 167)).new (.cells En.zero.cells 131)):=(Ar.new _ _).Df _;have d:((h.new (.cells f.cells 167)).new (.cells En.zero.cells 131)).get h.next=some (.cells f.cells 167):=by
  rw[Aw _ (aL _)];exact Ad _ _
 have g:((h.new (.cells f.cells 167)).new (.cells En.zero.cells 131)).get (h.next+1)=some (.cells En.zero.cells 131):=Ad _ _;have n1:((h.new (.cells f.cells 167)).new (.cells En.zero.cells 131)).next=h.next+2:=rfl
 rw[show(h.new (.cells f.cells 167)).next=h.next+1 from rfl];generalize (h.new (.cells f.cells 167)).new (.cells En.zero.cells 131)=h1 at S d g n1⊢;have u:=S.hb hb;have fin:∀(e:En) (er:Int) (y:Aa) (T:Aa->R),(∀h',T h'=It TT [.c (.ptr (h.next+1) 0) 131,.v (I er)] h')->HB y->Ext h y->y.get (h.next+1)=some (.cells En.zero.cells 131)->e.Wf->(e,er)=T7 f ->
  Ok (stE 38 (.ptr (h.next+1) 0) (.agg e.cells) y T) fun v h'=>v=.tuple [.agg (T7 f).1.cells,I (T7 f).2]/\(T7 f).1.Wf/\Ext h h':=by
  intro e er y T U A D Y wf he;have fl:=En.Bm wf;refine Ok.st e.cells Y rfl (by show Fz e.cells=38;rw[Bc,fl]) (Bk (by rw[zl];exact fl.symm)) ?_;have g6:(y.put (h.next+1) (.cells e.cells 131)).get (h.next+1)=some (.cells e.cells 131):=Ae _ _ _;rw[U,Ff g6 Bbg.1 Bbg.2 fl,<-he];exact .ret ⟨rfl,wf,D.Aq (.inr (by omega)) (A _ _ Y) _⟩
 rw[Cs d rfl,l0];simp only[Gx];rw[Cw d rfl,l5];simp only[Gx];refine(A7f (K:=K) w.len w.u8 u X f.kind).Ap ?_;rintro _ h2 ⟨rfl,E⟩;have B:=E.hb u;have V:=S.trans E;have d:=E.at u d;have g:=E.at u g;have n2:h.next+2<=h2.next:=by have:=E.next;omega
 try simp only[Ab]
 try rw[En.Hq]
 have F:Ext h2 (h2.new (.cells En.zero.cells 131)):=Ar.new _ _;have m:(h2.new (.cells En.zero.cells 131)).get h2.next=some (.cells En.zero.cells 131):=Ad _ _
 have d:=F.at B d;have g:=F.at B g;have C:=F.hb B;have G:=V.trans F;generalize h2.new (.cells En.zero.cells 131)=H at F m d g C G⊢;generalize h2.next=P at m n2⊢
 refine Ok.st (ofF f.kind f.body).1.cells m rfl (by show Fz (ofF f.kind f.body).1.cells=38;rw[Bc,ol]) (Bk (by rw[zl];exact ol.symm)) ?_;have J:=C _ _ m;have m:(H.put P (.cells (ofF f.kind f.body).1.cells 131)).get P=some (.cells (ofF f.kind f.body).1.cells 131):=Ae _ _ _;have d:(H.put P (.cells (ofF f.kind f.body).1.cells 131)).get h.next=some (.cells f.cells 167):=by rw[Af _];exact d
 have g:(H.put P (.cells (ofF f.kind f.body).1.cells 131)).get (h.next+1)=some (.cells En.zero.cells 131):=by rw[Af _];exact g
 have W:Ext h (H.put P (.cells (ofF f.kind f.body).1.cells 131)):=G.Aq (.inr (by omega)) J _;have j:=C.put J (.cells (ofF f.kind f.body).1.cells 131);generalize H.put P (.cells (ofF f.kind f.body).1.cells 131)=h4 at m d g W j⊢;unfold T7 at fin⊢;generalize (ofF f.kind f.body).2=er at fin⊢;generalize (ofF f.kind f.body).1=e at fin o ol m⊢;simp only[I,Ac];by_cases h0:er=0
 ·subst h0
  simp only[aC,aA,Ab,ak,Aqa]at fin⊢;rw[Cw m rfl,Ak ol];simp only[Gx];rw[Cs d rfl,l1];simp only[Gx,Ab];rw[Cs d rfl,Z];simp only[Gx,Ab];rw[Cs d rfl,l3];simp only[Gx,Ab];rw[Cs d rfl,l4];simp only[Gx,Ab];refine(Ae4 (K:=K) o j X f.Ah f.off f.Am f.seq).Ap ?_;rintro _ y ⟨rfl,D⟩;have A:=D.hb j;have g:=D.at j g;have m:=D.at j m;have L:=W.trans D;generalize (Ee e f.Ah f.off f.Am f.seq).2=M at fin⊢;simp only[Ab,I,Ac];by_cases O:M=0
  ·subst O
   simp only[aC,aA,Ab,ak,Ap9]at fin⊢;rw[Cw m rfl,Ak ol];exact fin e 0 y _ (fun _=>rfl) A L g o rfl
  ·simp only[O,aN,aB,Ab,bI]at fin⊢
   rw[Ax (l:=En.zero.cells) rfl];exact fin En.zero M y _ (fun _=>rfl) A L g En.Gs rfl
 ·simp only[h0,aN,aB,Ab,bI]at fin⊢
  rw[Ax (l:=En.zero.cells) rfl];exact fin En.zero er h4 _ (fun _=>rfl) j W g En.Gs rfl
theorem A3k:∀(w a:Nat),Vq (T2 w a)=a%256^w
 | 0,a=>by simp[T2,Vq,Nat.mod_one]
 | w+1,a=>by
  rw[Axk,A38,A3k w a,Gu,Nat.mod_pow_succ]
theorem Zd {w:Nat}{b:Int}(h0:0<=v)(hb:v<=b)(hw:b<(256^w:Nat)):((Vq (T2 w v.toNat):Nat):Int)=v:=by
 rw[A3k,fN (by omega)];omega
theorem A4c {a b:List Nat}(h:a.length=n):(a++b).take n=a:=by subst h;simp
theorem A8f {a b:List Nat}(h:a.length=n):(a++b).drop n=b:=by subst h;simp
theorem A9h(w:f.Wf):Azi (Qe f)=true:=by
 have d:=Aol w;have h2:=Aif w;unfold Azi;rw[d];apply aP;unfold Qe;rw[A4c h2,A8f h2]
theorem A2s(w:f.Wf)(d:frB f=true):Zh (Au5 f)=f/\Vq (((Au5 f).drop 1).take 1)=1:=by
 simp only[frB,aV]at d;obtain⟨g,j,m,o,u⟩:=d;obtain⟨D,b1⟩:=Ec.1 g;obtain⟨y,b2⟩:=Ec.1 j;obtain⟨A,b3⟩:=Ec.1 m;obtain⟨E,b4⟩:=Ec.1 o;obtain⟨B,C⟩:=Ec.1 u;have F:=w.len;have t44:f.body.take 44=f.body:=bQ (by omega);unfold Zh Au5;simp only[cR,A4c (Gu _ _),A8f (Gu _ _),t44];rw[Zd (w:=1) (by omega) b1 (by decide),Zd (w:=2) y b2 (by decide),Zd (w:=2) A b3 (by decide),Zd (w:=4) (by omega) b4 (by decide),Zd (w:=6) B C (by decide)];exact⟨rfl,by rw[A3k]⟩
theorem Bel(w:f.Wf)(d:frB f=true):Xn (Qe f)=(f,0):=by
 obtain⟨e1,e2⟩:=A2s w d;have h2:=Aif w;have g:(Qe f).take 60=Au5 f:=by unfold Qe;exact A4c h2
 unfold Xn;rw[aF (by rw[A9h w];simp),g,e1,aH ⟨e2,d⟩]
theorem Bjj(w:f.Wf)(d:frB f=true):atF (Qe f) f.Ah f.off=(f,0):=by
 unfold atF;rw[Bel w d];simp
theorem A0f(w:e.Wf)(d:erB e=true):Zc e.kind (Xl e)=e:=by
 obtain⟨⟨g,b1⟩,⟨j,b2⟩,⟨m,b3⟩,⟨y,b4⟩,⟨o,u⟩,_⟩:=A8i d;have A:=w.len;have t32:e.bytes.take 32=e.bytes:=bQ (by omega);unfold Zc Xl;simp only[cR,A4c (Gu _ _),A8f (Gu _ _),t32];rw[Zd (w:=6) g b1 (by decide),Zd (w:=1) (by omega) b4 (by decide),Zd (w:=1) j b2 (by decide),Zd (w:=2) o u (by decide),Zd (w:=2) m b3 (by decide)]
theorem Bd6(w:e.Wf)(d:erB e=true):ofF e.kind (Xl e)=(e,0):=by
 unfold ofF;rw[A0f w d];unfold Du;rw[aH d];simp
theorem Asb(w:e.Wf){Ah off Am seq:Int}(h:(Ee e Ah off Am seq).2=0):
 (Ee e Ah off Am seq).1=⟨e.kind,Ah,off,Am,seq,Xl e⟩/\frB ⟨e.kind,Ah,off,Am,seq,Xl e⟩=true/\erB e=true/\T7 ⟨e.kind,Ah,off,Am,seq,Xl e⟩=(e,0):=by
 by_cases d:erB e=true/\frB ⟨e.kind,Ah,off,Am,seq,(Du e).1⟩=true/\e.first<=seq/\seq-e.count<e.first
 ·have hb:(Du e).1=Xl e:=by unfold Du;rw[aH d.1]
  have g:Ee e Ah off Am seq=(⟨e.kind,Ah,off,Am,seq,Xl e⟩,0):=by unfold Ee;rw[aH d,hb]
  rw[hb]at d;refine⟨by rw[g],d.2.1,d.1,?_⟩;unfold T7;simp only[Bd6 w d.1,g];simp
 ·exfalso
  unfold Ee at h;rw[aF d]at h;exact absurd h (by decide)
end Go.Ev
