import Derived.Test.YtokpnommcenoaaaGreatXb
import Derived.Test.YtokpnommcenoaaaGreatXa
set_option linter.all false
namespace Go.Ev
open Go.Proofs
set_option maxRecDepth 100000
variable {K P a b i n q t off:Nat}{k:EV->R}{p out:List Nat}{h h':Ab}{v kind:Int}{x:EV}{op:Bool}
abbrev Nk(k:IntKind)(a:Nat):EV:=.int k (Int.ofNat a)
theorem wrap_u8(a:Nat):Cx .u8 (Int.ofNat a)=Int.ofNat (a%256):=by
 rw[Ly];rfl
theorem wrap_u32(a:Nat):Cx .u32 (Int.ofNat a)=Int.ofNat (a%4294967296):=by
 rw[Ly];rfl
theorem Axt {c:IntKind}:Sj .u8 (.int c (Int.ofNat a)) k=k (Nk .u8 (a%256)):=by
 rw[A06,wrap_u8]
theorem Ao8:Af0 (bin TT .shr t) (.int .i64 (Int.ofNat a)) (.int .u64 8) k=k (Nk .i64 (a/256)):=by
 show k (.int .i64 (.ofNat (Nat.shiftRight a 8)))=_;have:Nat.shiftRight a 8=a/256:=eZ a 8;rw[this]
theorem As5 {s:Nat}(hs:s<=32):Af0 (bin TT .shr t) (.int .u32 (Int.ofNat a)) (.int .u64 (Int.ofNat s)) k=k (Nk .u32 (a/2^s)):=by
 show k (.int .u32 (.ofNat (Nat.shiftRight a (Bb (Nat.ble s 32) s 32))))=_;rw[aR hs,Al];have:Nat.shiftRight a s=a/2^s:=eZ a s;rw[this]
theorem Bb9(d:a<4294967296)(hb:b<4294967296):Af0 (bin TT .xor t) (.int .u32 (Int.ofNat a)) (.int .u32 (Int.ofNat b)) k=k (Nk .u32 (a ^^^ b)):=by
 show k (.int .u32 (Cx .u32 (.ofNat (Nat.xor a b))))=_;rw[wrap_u32];have:Nat.xor a b<2^32:=dV (n:=32) d hb;rw[ek (by exact this)];rfl
theorem Bjf(d:a<256)(hb:b<256):Af0 (bin TT .xor t) (.int .u8 (Int.ofNat a)) (.int .u8 (Int.ofNat b)) k=k (Nk .u8 (a ^^^ b)):=by
 show k (.int .u8 (Cx .u8 (.ofNat (Nat.xor a b))))=_;rw[wrap_u8];have:Nat.xor a b<2^8:=dV (n:=8) d hb;rw[ek (by exact this)];rfl
def wd:Nat->Nat->Nat
 | 0,_=>1
 | f+1,a=>if a/256=0 then 1 else wd f (a/256)+1
theorem Bm9:∀(f a w:Nat),a<256^(f+1)->1<=w->(wd f a<=w↔a<256^w)
 | 0,a,w,h,hw=>by
  refine⟨fun _=>aL h (eY (by decide) (by omega)),fun _=>hw⟩
 | f+1,a,w,h,hw=>by
  unfold wd;by_cases h0:a/256=0
  ·rw[aN h0]
   refine⟨fun _=>?_,fun _=>hw⟩;have:a<256:=by omega
   exact aL this (by have:=eY (n:=256) (by decide) hw;simpa using this)
  ·rw[aK h0]
   have d:=Bm9 f (a/256) (w-1) (by rw[eE]at h;exact eX (by rw[fI];exact h));by_cases g:w=1
   ·subst g
    refine⟨fun y=>?_,fun y=>?_⟩
    ·have:1<=wd f (a/256):=by cases f<;>unfold wd<;>(try split)<;>omega
     omega
    ·exfalso;apply h0;simp at y;omega
   ·have d:=d (by omega)
    obtain⟨v,rfl⟩:∃v,w=v+1:=⟨w-1,by omega⟩;rw[fN]at d;rw[eE];refine⟨fun y=>?_,fun y=>?_⟩
    ·have:=d.1 (by omega)
     have:=Nat.div_lt_iff_lt_mul (k:=256) (x:=a) (y:=256^v) (by decide);omega
    ·have:=d.2 (eX (by rw[fI];exact y))
     omega
theorem Bag:∀(f m a n:Nat) (h:Ab),f<m->a<256^(f+1)->n+f<=100->f<=10 ->
 Lw K m (Nk .i64 a) (Nk .i64 n) h=Wo K (Nk .i64 (a/256^(wd f a-1))) (Nk .i64 (n+wd f a-1)) h:=by
 intro f;induction f with
 | zero=>
  intro m a n h hm d g j;obtain⟨m,rfl⟩:∃k,m=k+1:=⟨m-1,by omega⟩;have:a/256=0:=by simp at d;omega
  simp only[Lw,dr];rw[Ao8,this];simp only[Nk,Ad];rw[show decide ((0:Int)<Int.ofNat 0)=false from rfl];simp only[Aa,wd,fH,Nat.pow_zero,Nat.div_one,fN]
 | succ f o=>
  intro m a n h hm d g j;obtain⟨m,rfl⟩:∃k,m=k+1:=⟨m-1,by omega⟩;simp only[Lw,dr];rw[Ao8];simp only[Nk,Ad];unfold wd;by_cases h0:a/256=0
  ·rw[aN h0,h0]
   rw[show decide ((0:Int)<Int.ofNat 0)=false from rfl];simp only[Aa,fH,Nat.pow_zero,Nat.div_one,fN]
  ·rw[aK h0,show decide ((0:Int)<Int.ofNat (a/256))=true from aP (by show(0:Int)<((a/256:Nat):Int);omega)]
   simp only[Aa,Ao1];rw[Ao8];simp only[Nk,Ad];rw[show Cx .i64 (Int.ofNat n+1)=Int.ofNat (n+1)from Cn (by show _<=((n:Nat):Int)+1;omega) (by show((n:Nat):Int)+1<=_;omega)];have e:=o m (a/256) (n+1) h (by omega) (eX (by rw[fI,<-eE];exact d)) (by omega) (by omega);rw[e];have hw:1<=wd f (a/256):=by cases f<;>unfold wd<;>(try split)<;>omega
   obtain⟨u,hu⟩:∃u,wd f (a/256)=u+1:=⟨wd f (a/256)-1,by omega⟩;rw[hu,fN,show u+1+1-1=u+1 from rfl,Nat.pow_succ',eP,show n+1+(u+1)-1=n+(u+1+1)-1 by omega]
def Aem(a:Nat):Nat:=if 7<wd 7 a then 8 else wd 7 a
theorem A08(g:a<9223372036854775808)(j:1000<K)(h:Ab):Vo K (.int .i64 (Int.ofNat a)) h=some (Nk .i64 (Aem a),h):=by
 simp only[Vo,dr];unfold Aem;have e:=Bag (K:=K) 7 K a 1 h (by omega) (Nat.lt_trans g (by decide)) (by decide) (by decide);have:(EV.int .i64 1)=Nk .i64 1:=rfl;rw[this,e];have hw:1<=wd 7 a:=by unfold wd;split<;>omega
 simp only[Wo,Nk,Ad];rw[show decide (Int.ofNat (a/256^(wd 7 a-1))<0)=false from aQ (by show ¬(((a/256^(wd 7 a-1):Nat):Int)<0);exact Int.not_lt.2 (Int.natCast_nonneg _))];rw[show 1+wd 7 a-1=wd 7 a by omega];by_cases d:7<wd 7 a
 ·rw[show decide ((7:Int)<Int.ofNat (wd 7 a))=true from aP (by show(7:Int)<((wd 7 a:Nat):Int);omega),aN d]
  simp only[Aa,Xd];rfl
 ·rw[show decide ((7:Int)<Int.ofNat (wd 7 a))=false from aQ (by show ¬((7:Int)<((wd 7 a:Nat):Int));omega),aK d]
  simp only[Aa,Xd,Anl]
theorem Ber(g:1000<K)(h:Ab):Vo K (.int .i64 (Int.negSucc a)) h=some (I 8,h):=by
 obtain⟨m,rfl⟩:∃k,K=k+1:=⟨K-1,by omega⟩;simp only[Vo,Lw,dr];have e:∀k:EV->R,Af0 (bin TT .shr 3) (.int .i64 (Int.negSucc a)) (.int .u64 8) k=k (.int .i64 ((Int.negSucc a).fdiv 256)):=fun k=>rfl
 have d:(Int.negSucc a).fdiv 256<0:=by
  rw[eW _ (by decide)];have:Int.negSucc a<0:=Int.negSucc_lt_zero a;omega
 rw[e];simp only[Ad];rw[show decide ((0:Int)<(Int.negSucc a).fdiv 256)=false from aQ (by omega)];simp only[Aa,Wo,Ad];rw[show decide (Int.negSucc a<0)=true from aP (Int.negSucc_lt_zero a)];simp only[Aa,Xd,I]
theorem A1k {w:Nat}(d:a<9223372036854775808)(g:1<=w)(j:w<=7):Aem a<=w↔a<256^w:=by
 have:=Bm9 7 a w (Nat.lt_trans d (by decide)) g;rw[<-this];unfold Aem;split<;>omega
def Uh(w a:Nat):List Nat:=(List.range w).map fun i=>a/256^i%256
theorem Ayh(w a:Nat):Uh (w+1) a=Uh w a++[a/256^w%256]:=by unfold Uh;rw[cz,cB];rfl
theorem H7(w a:Nat):(Uh w a).length=w:=by simp[Uh]
theorem Aty(a b:List Nat):Bc (a++b)=Bc a++Bc b:=cB
theorem Bi(a:List Nat):(Bc a).length=a.length:=bU _
structure A0e(h:Ab)(P t:Nat)(out:List Nat)(bad:Bool):Prop where
 N8:∃s q,h.get P=some (.cells [s,.bool bad] t)/\Ci h s q 5 1 out.length (Bc out)/\(0<out.length->P<q)
theorem Ab6(n:Int)(h:Ab):Xz K (I n) h=some (.bool (decide (1<=n/\n<=7)),h):=by
 simp only[Xz,I,Ad,Aa];by_cases d:1<=n
 ·simp only[d,aB,Aa,Ad,Ab8,fS]
 ·simp only[d,aA,Aa,Ab8,fR]
theorem Bil {w:Nat}{bad:Bool}(C:a<9223372036854775808)(hw:w<=7)(D:out.length<=60000)(h0:Ab)(E:P<h0.next):∀(m i:Nat) (h:Ab),w-i<m->i<=w->HB h->Ar (fun i=>P<=i) h0 h->A0e h P t (out++Uh i a) bad ->
 Ok (Jh K m (.ptr P 0) (Nk .i64 (a/256^i)) (I w) (I i) h) fun _ h'=>A0e h' P t (out++Uh w a) bad/\Ar (fun i=>P<=i) h0 h'/\HB h':=by
 intro m;induction m with
 | zero=>intro i h hm;omega
 | succ m A=>
  intro i h hm F hb c p;obtain⟨s,q,g,r,l⟩:=p.N8;simp only[Jh,I,Ad,Aa];by_cases d:(i:Int)<w
  ·simp only[d,aB,Aa,Zw,Cy g rfl]
   rw[wrap_u8];have hlen:(out++Uh i a).length=out.length+i:=by rw[aF,H7]
   refine N9 (z:=[.int .u8 0]) r hb rfl rfl rfl (by omega) (by omega) ?_;intro h2 B G c2;have gq:¬(0<(out++Uh i a).length/\P=q):=fun y=>by have:=l y.1;omega
   have o:=c2.at hb g gq;have u:=(c2.hb hb) _ _ o;refine Ok.Zl o rfl rfl (by show 0<2;decide) ?_;rw[Ao8];simp only[Zb,I,Ad];rw[Cn (by omega) (by omega),eP,<-eE];have c3:Ar (fun i=>P<=i) h (h2.put P (.cells ([s,EV.bool bad].set 0 (.slice (h.next+1) 0 ((out++Uh i a).length+1) ((out++Uh i a).length+1) true)) t)):=(c2.mono fun j hj=>by have:=l hj.1;show P<=j;omega).Ak (.inl (aC _)) u _;refine A (i+1) _ (by omega) (by omega) ((c2.hb hb).put u _) (c.trans c3) ?_;rw[Ayh,<-br];refine⟨_,h.next+1,Ae _ _ _,?_,fun _=>by have:=c.next;omega⟩;have e1:((out++Uh i a)++[a/256^i%256]).length=(out++Uh i a).length+1:=by rw[aF];rfl
   have e2:Bc ((out++Uh i a)++[a/256^i%256])=Bc (out++Uh i a)++EV.cells (Nk .u8 (a/256^i%256)):=by rw[Aty];rfl
   rw[e1,e2];refine B.frame fun _=>Af _ ?_
   have:=hb _ _ g;omega
  ·have:i=w:=by omega
   subst this;simp only[d,aA,Aa];exact .ret ⟨p,c,hb⟩
def fits(w:Nat)(v:Int):Bool:=decide (0<=v/\v<(256^w:Nat))
theorem Lo {w:Nat}{bad:Bool}(u:1000<K)(p:A0e h P t out bad)(hb:HB h)(B:out.length<=60000)(C:1<=w)(A:w<=7)(D : -9223372036854775808<=v/\v<=9223372036854775807):
 Ok (Eg K (.ptr P 0) (I w) (I v) h) fun _ h'=>A0e h' P t (if fits w v=true then out++Uh w v.toNat else out) (bad||!fits w v)/\Ar (fun i=>P<=i) h h'/\HB h':=by
 obtain⟨s,q,g,r,l⟩:=p.N8;have j:=hb _ _ g;simp only[Eg,dr];rw[Ab6,aP ⟨by omega,by omega⟩];simp only[Aa,Ad];have no:fits w v=false->Ok (stE 1 (.ptr P 1) (.bool true) h fun h=>some (.tuple [],h)) fun _ h'=>A0e h' P t (if fits w v=true then out++Uh w v.toNat else out) (bad||!fits w v)/\Ar (fun i=>P<=i) h h'/\HB h':=by
  intro m;refine Ok.Zl g rfl rfl (by show 1<2;decide) ?_;refine .ret ⟨?_,(Ar.refl (S:=fun i=>P<=i) h).Ak (.inl (aC _)) j _,hb.put j _⟩;rw[m,aK (by simp),cO,Bool.or_true];exact⟨s,q,Ae _ _ _,r.frame fun y=>Af _ (by have:=l y;omega),l⟩
 cases v with
 | negSucc a=>
  unfold I;rw[Ber u,Au];simp only[I,Ad];rw[show decide ((w:Int)<8)=true from aP (by omega)];simp only[Aa,O5];exact no (aQ fun y=>absurd y.1 (by have:=Int.negSucc_lt_zero a;omega))
 | ofNat a=>
  have o:a<9223372036854775808:=by have:((a:Nat):Int)<=9223372036854775807:=D.2;omega
  unfold I;rw[A08 o u,Au];have d:=A1k o C A;simp only[Nk,Ad];by_cases hw:Aem a<=w
  ·have m:fits w (Int.ofNat a)=true:=aP ⟨Int.natCast_nonneg a,by have:=d.1 hw;exact Int.ofNat_lt.2 this⟩
   rw[show decide ((w:Int)<Int.ofNat (Aem a))=false from aQ (by show ¬(w:Int)<((Aem a:Nat):Int);omega)];simp only[Aa,O5,Zk];have:=Bil (K:=K) (P:=P) (t:=t) (w:=w) (bad:=bad) o A B h j K 0 h (by omega) (cU _) hb (Ar.refl _) (by simpa [Uh]using p);rw[Nat.pow_zero,Nat.div_one]at this;rw[m,aN rfl,dP,Bool.or_false];exact this
  ·rw[show decide ((w:Int)<Int.ofNat (Aem a))=true from aP (by show(w:Int)<((Aem a:Nat):Int);omega)]
   simp only[Aa,O5];exact no (aQ fun y=>hw (d.2 (Int.ofNat_lt.1 y.2)))
theorem Ats{bad:Bool}{new:List Nat}(p:A0e h P t out bad)(hb:HB h)(C:out.length<=60000)(u:lenOf x=some n)(h0:0<n)(D:n<=5000)(A:O1 h 1 n x=some (Bc new))(m:new.length=n):
 Ok (Qc K (.ptr P 0) x h) fun _ h'=>A0e h' P t (out++new) bad/\Ar (fun i=>P<=i) h h'/\HB h':=by
 obtain⟨s,q,g,r,l⟩:=p.N8;have E:=hb _ _ g;simp only[Qc,Aa,Cy g rfl];obtain⟨h2,e,B,F,c2⟩:=Ze r u h0 (by omega) (by omega) A (by rw[Bi,m,bc]);rw[e,Au];have gq:¬(0<out.length/\P=q):=fun y=>by have:=l y.1;omega
 have o:=c2.at hb g gq;have d:=(c2.hb hb) _ _ o
 try simp only[Aa]
 refine Ok.Zl o rfl rfl (by show 0<2;decide) ?_;refine .ret ⟨⟨_,h.next,Ae _ _ _,?_,fun _=>by omega⟩,(c2.mono fun j hj=>by have:=l hj.1;show P<=j;omega).Ak (.inl (aC _)) d _,(c2.hb hb).put d _⟩;rw[aF,m,Aty];exact B.frame fun _=>Af _ (by omega)
structure Bs(h:Ab)(x:EV)(b off:Nat)(l:List Nat):Prop where
 N8:∃r op o row,x=.slice b off l.length r op/\l.length<=r/\h.get b=some o/\rowOf o=some row/\off+l.length<=row.length/\(row.drop off).take l.length=Bc l
theorem Bs.frame{l:List Nat}(s:Bs h x b off l)(e:h'.get b=h.get b):Bs h' x b off l:=by
 obtain⟨r,op,o,row,e1,e0,e2,e3,e4,e5⟩:=s.N8;exact⟨r,op,o,row,e1,e0,by rw[e];exact e2,e3,e4,e5⟩
theorem Bs.lt{l:List Nat}(s:Bs h x b off l)(hb:HB h):b<h.next:=by
 obtain⟨r,op,o,row,e1,e0,e2,e3,e4,e5⟩:=s.N8;exact hb _ _ e2
theorem Bs.ext{l:List Nat}(s:Bs h x b off l)(hb:HB h)(c:Ext h h'):Bs h' x b off l:=s.frame (c.get _ (s.lt hb) id)
theorem Bs.lift{l:List Nat}(s:Bs h x b off l):Bs h.lift x b off l:=s.frame (By _ _)
theorem Bs.len{l:List Nat}(s:Bs h x b off l):lenOf x=some l.length:=by
 obtain⟨r,op,o,row,rfl,_⟩:=s.N8;rfl
theorem Bs.Hz{l:List Nat}(s:Bs h x b off l)(k:EV->R):Ev.Hz x k=k (I l.length):=by
 obtain⟨r,op,o,row,rfl,_⟩:=s.N8;rfl
theorem Bs.cells{l:List Nat}(s:Bs h x b off l):O1 h 1 l.length x=some (Bc l):=by
 obtain⟨r,op,o,row,rfl,e0,e2,e3,e4,e5⟩:=s.N8;show Bb (Nat.beq l.length 0) (some []) (Xo h b off (Nat.mul l.length 1))=_;rw[show Nat.mul l.length 1=l.length from bc _];have d:Mh row off l.length=some (Bc l):=by rw[Fc e4,e5]
 cases g:l with
 | nil=>rfl
 | cons a r=>
  rw[show Nat.beq (a::r).length 0=false from rfl,Bl];unfold Xo;rw[e2,<-g];cases o<;>first|(cases e3;done)|(cases e3;exact d)
theorem Bs.ix{l:List Nat}(s:Bs h x b off l)(d:i<l.length):(∀k:EV->R,X8 1 x (.int .i64 (i:Int)) k=k (.ptr b (off+i)))/\(∀k:EV->R,Dr (.ptr b (off+i)) h k=k (Nk .u8 l[i])):=by
 obtain⟨r,op,o,row,rfl,e0,e2,e3,e4,e5⟩:=s.N8;refine⟨fun k=>by rw[Mg d,bc],fun k=>?_⟩;rw[Cy e2 e3];have:row[off+i]? = some (Nk .u8 l[i]):=by
  have e5:=congrArg (fun z=>z[i]?) e5;simp only[dU,d,bG,cX]at e5;rw[e5];unfold Bc;rw[av,aH d];rfl
 rw[this];rfl
theorem Bs.take{l:List Nat}(s:Bs h x b off l)(j:n<=l.length):∃y,(∀k:EV->R,Aik 1 x none (some (.int .i64 (n:Int))) none k=k y)/\Bs h y b off (l.take n):=by
 obtain⟨r,op,o,row,rfl,e0,e2,e3,e4,e5⟩:=s.N8;have d:(l.take n).length=n:=by rw[bJ,dR j]
 refine⟨EV.slice b off n r op,fun k=>?_,⟨r,op,o,row,by rw[d],by rw[d];omega,e2,e3,by rw[d];omega,?_⟩⟩
 ·have:slc (EV.slice b off l.length r op) 1 none (some (.int .i64 (n:Int))) none=some (EV.slice b off n r op):=by
   have g:bound (some (.int .i64 (n:Int))) r l.length=some n:=by
    show Bb (Nat.ble n r) (some n) none=_;rw[aR (by omega),Al]
   unfold slc;simp only[g];cases op with
   | true=>rfl
   | false=>
    show Bb (Nat.ble 0 r) (some (EV.slice b (Bb (Nat.beq r 0) off (Nat.add off (Nat.mul 0 1))) n r false)) none=_;rw[aR (cU _),Al];have:Bb (Nat.beq r 0) off (Nat.add off (Nat.mul 0 1))=off:=by
     rw[show Nat.add off (Nat.mul 0 1)=off from rfl];cases Nat.beq r 0<;>rfl
    rw[this]
  unfold Aik;rw[this];rfl
 ·rw[d]
  have:=congrArg (fun z=>z.take n) e5;simp only[List.take_take,dR j]at this;rw[this];unfold Bc;rw[List.map_take]
theorem Bs.drop{l:List Nat}{r:Nat}(s:Bs h (.slice b off l.length r op) b off l)(B:n<l.length):(∀k:EV->R,Aik 1 (.slice b off l.length r op) (some (.int .i64 (n:Int))) none none k=k (.slice b (off+n) (l.length-n) (r-n) op))/\Bs h (.slice b (off+n) (l.length-n) (r-n) op) b (off+n) (l.drop n):=by
 obtain⟨C,m,o,row,e1,e0,e2,e3,e4,e5⟩:=s.N8;injection e1 with _ _ _ u y;subst u y;have d:(l.drop n).length=l.length-n:=by rw[ak]
 refine⟨fun k=>?_,⟨r-n,op,o,row,by rw[d],by rw[d];omega,e2,e3,by rw[d];omega,?_⟩⟩
 ·have:slc (.slice b off l.length r op) 1 (some (.int .i64 (n:Int))) none none=some (.slice b (off+n) (l.length-n) (r-n) op):=by
   have g:bound (some (.int .i64 (n:Int))) l.length 0=some n:=by
    show Bb (Nat.ble n l.length) (some n) none=_;rw[aR (by omega),Al]
   have j:bound none r l.length=some l.length:=rfl;unfold slc;simp only[g,j];cases op with
   | true=>
    rw[Al];cases n with
    | zero=>rfl
    | succ n=>
     rw[show Nat.beq (n+1) 0=false from rfl,Bl,aR (by show n+1+1<=r;omega),Al,show Nat.mul (n+1) 1=n+1 from bc _];rfl
   | false=>
    rw[Bl,aR (by show n<=r;omega),Al,show Nat.mul n 1=n from bc _];have:Nat.beq r n=false:=by
     cases A:Nat.beq r n with
     | false=>rfl
     | true=>have:=aJ A;omega
    rw[this,Bl];rfl
  unfold Aik;rw[this];rfl
 ·have:=congrArg (fun z=>z.drop n) e5
  rw[d];simp only[List.drop_take,cW]at this;rw[this];unfold Bc;rw[List.map_drop]
theorem Ci.bs{s:EV}{l:List Nat}(r:Ci h s q 5 1 l.length (Bc l))(d:0<l.length):Bs h s q 0 l:=by
 refine⟨l.length,true,_,Bc l,r.slice d,aC _,r.block d,rfl,by rw[Bi,bC];exact aC _,?_⟩;rw[dA,<-Bi,cM]
def Bpi:EV->Nat
 | .int _ x=>x.toNat
 | _=>0
noncomputable def A8w:List Nat:=Ba.map Bpi
theorem Bdn:Ba=A8w.map (Nk .u32):=by kernel_rfl
theorem Boe:A8w.all (fun n=>Nat.blt n 4294967296)=true:=by kernel_rfl
theorem Bm1:A8w.length=256:=by kernel_rfl
noncomputable def A1g(r c:Nat):Nat:=(r/256) ^^^ (A8w[(r%256) ^^^ c]?).getD 0
theorem A8e(g:i<256):Ba[i]? = some (Nk .u32 ((A8w[i]?).getD 0))/\(A8w[i]?).getD 0<4294967296:=by
 have d:i<A8w.length:=by rw[Bm1];exact g
 rw[Bdn,av,aH d];refine⟨rfl,?_⟩;have:=dL.1 Boe _ (bF d);exact bB this
theorem Bla {r c:Nat}(j:r<4294967296)(d:c<256):A1g r c<4294967296:=by
 unfold A1g;have g:(r%256) ^^^ c<2^8:=dV (n:=8) (Nat.mod_lt _ (by decide)) d;exact dV (n:=32) (by show r/256<4294967296;omega) (A8e g).2
theorem Bmf{r c:Nat}(o:r<4294967296)(g:c<256):Ok (W8 K Wc (Nk .u32 r) (Nk .u8 c) h) fun v h'=>v=Nk .u32 (A1g r c)/\Ext h h':=by
 unfold Wc;simp only[W8,Aa];have j:(h.new (.cells Ba 119)).get h.next=some (.cells Ba 119):=Ac _ _
 have m:Ext h (h.new (.cells Ba 119)):=Ar.new _ _;generalize h.new (.cells Ba 119)=u at j m⊢;rw[show ∀k:EV->R,Af0 (bin TT .shr 117) (Nk .u32 r) (.int .u64 8) k=k (Nk .u32 (r/256))from fun k=>As5 (s:=8) (by decide)];have d:(r%256) ^^^ c<256:=dV (n:=8) (Nat.mod_lt _ (by decide)) g;rw[wrap_u8,Bjf (Nat.mod_lt _ (by decide)) g,show ∀k:EV->R,Au9 256 1 (.ptr h.next 0) (Nk .u8 ((r%256) ^^^ c)) k=k (.ptr h.next (0+((r%256) ^^^ c)*1))from fun k=>Z6 d];rw[Cy j rfl,bC,bc,(A8e d).1];simp only[G8];rw[Bb9 (by omega) (A8e d).2];exact .ret ⟨rfl,m⟩
noncomputable def Awh(r:Nat)(l:List Nat):Nat:=l.foldl A1g r
theorem Axh:∀(l:List Nat) (r:Nat),r<4294967296->(∀b∈l,b<256)->Awh r l<4294967296
 | [],r,d,_=>d
 | c::l,r,d,g=>Axh l (A1g r c) (Bla d (g c (aV ..))) fun b hb=>g b (aT _ hb)
theorem Bfb {T:Nat}{l:List Nat}(u:∀b∈l,b<256)(D:l.length<=5000){r0:Nat}(h0:r0<4294967296):∀(m i:Nat) (h:Ab),l.length-i<m->i<=l.length->HB h->h.get T=some (.cells Ba 119)->Bs h x b off l ->
 Ok (Nm K m (.ptr T 0) (Nk .u32 (Awh r0 (l.take i))) x (I l.length) (I i) h) fun v h'=>v=Nk .u32 (Awh r0 l)/\Ext h h':=by
 intro m;induction m with
 | zero=>intro i h hm;omega
 | succ m A=>
  intro i h hm E hb y s;simp only[Nm,I,Ad,Aa];by_cases g:(i:Int)<l.length
  ·have d:i<l.length:=by omega
   obtain⟨e1,e2⟩:=s.ix d;simp only[g,aB,Aa,Af6,e1,e2,C8 y rfl];rw[Am Rj];simp only[G8];have o:∀b∈l.take i,b<256:=fun b hb=>u b (bO hb)
   refine(Bmf (K:=K) (Axh _ _ h0 o) (u _ (bF d))).Ap ?_;rintro _ B ⟨rfl,j⟩;simp only[Ag3,I,Ad];rw[Cn (by omega) (by omega)];have e:A1g (Awh r0 (l.take i)) l[i]=Awh r0 (l.take (i+1)):=by
    unfold Awh;rw[List.take_add_one,List.foldl_append,aH d];rfl
   rw[e];refine(A (i+1) B (by omega) (by omega) (j.hb hb) (j.at hb y) (s.ext hb j)).mono ?_;rintro v h' ⟨e,C⟩;exact⟨e,j.trans C⟩
  ·have:i=l.length:=by omega
   subst this;simp only[g,aA,Aa,Ahq,cM];exact .ret ⟨rfl,Ar.refl _⟩
noncomputable def F4(l:List Nat):Nat:=Awh 4294967295 l ^^^ 4294967295
theorem Bav {l:List Nat}(d:∀b∈l,b<256):F4 l<4294967296:=dV (n:=32) (Axh l _ (by decide) d) (by decide)
theorem A28{l:List Nat}(y:10000<K)(s:Bs h x b off l)(hb:HB h)(g:∀b∈l,b<256)(m:l.length<=5000):Ok (N4 K Wc x h) fun v h'=>v=Nk .u32 (F4 l)/\Ext h h':=by
 unfold Wc;simp only[N4,Aa];have j:(h.new (.cells Ba 119)).get h.next=some (.cells Ba 119):=Ac _ _
 have d:Ext h (h.new (.cells Ba 119)):=Ar.new _ _;generalize h.new (.cells Ba 119)=o at j d⊢;have s1:=s.ext hb d;simp only[Aee,s1.Hz,dr];refine(Bfb (K:=K) g m (r0:=4294967295) (by decide) K 0 o (by omega) (cU _) (d.hb hb) j s1).Ap ?_;rintro _ h2 ⟨rfl,u⟩;rw[show ∀k:EV->R,Af0 (bin TT .xor 117) (Nk .u32 (Awh 4294967295 l)) (.int .u32 4294967295) k=k (Nk .u32 (F4 l))from fun k=>Bb9 (b:=4294967295) (Axh l _ (by decide) g) (by decide)];exact .ret ⟨rfl,d.trans u⟩
theorem Ci.cells{s:EV}{l:List Nat}(r:Ci h s q 5 1 l.length (Bc l)):O1 h 1 l.length s=some (Bc l):=by
 rcases dS l.length with h0|d
 ·have:l = []:=bW.1 h0
  subst this;rcases r with⟨_,_,rfl|⟨b,rfl⟩⟩|⟨y,_⟩
  ·rfl
  ·rfl
  ·exact absurd y (bS _)
 ·exact(r.bs d).cells
theorem Avx{s:EV}(g:h.get P=some (.cells [s,.bool false] t))(r:Ci h s q 5 1 out.length (Bc out))(hb:HB h)(B:out.length<=60000):
 Ok (N5 K (.ptr P 0) h) fun v h'=>∃y q',v=.tuple [y,I 0]/\Ci h' y q' 5 1 out.length (Bc out)/\Ext h h'/\HB h'/\(0<out.length->h.next<=q'):=by
 simp only[N5,Aa,Cy g rfl,Ajp];rw[show Cd [(.int .u8 0)] 5 1 0 [] h=some (.slice h.next 0 0 0 false,h.new (.cells [] 5))from rfl,Au];have d:Ext h (h.new (.cells [] 5)):=Ar.new _ _;have m:=d.at hb g;have j:Ci (h.new (.cells [] 5)) s q 5 1 out.length (Bc out):=r.frame fun y=>d.get _ (hb _ _ (r.block y)) id
 generalize h.new (.cells [] 5)=C at d m j⊢;simp only[Aa,Cy m rfl];refine(Ws (b:=h.next) (e:=5) j.len (by omega) j.cells (by rw[Bi,bc]) 0).Ap ?_;rintro v h2 ⟨q',u,o,A⟩;refine .ret ⟨v,q',rfl,u,d.trans o,(d.trans o).hb hb,fun y=>?_⟩;have:=A y;have:=d.next
 omega
theorem Ayu(p:A0e h P t out false)(hb:HB h)(d:out.length<=60000):
 Ok (N5 K (.ptr P 0) h) fun v h'=>∃y q',v=.tuple [y,I 0]/\Ci h' y q' 5 1 out.length (Bc out)/\Ext h h'/\HB h'/\(0<out.length->h.next<=q'):=by
 obtain⟨s,q,g,r,_⟩:=p.N8;exact Avx g r hb d
theorem Bp7(s:Nat):Uh 4 s = [s%256,s/256%256,s/65536%256,s/16777216%256]:=by
 simp[Uh,cz]
theorem Boi(a b c d:Int)(h:Ab):Cd [(.int .u8 0)] 5 1 4 [(0,.int .u8 a),(1,.int .u8 b),(2,.int .u8 c),(3,.int .u8 d)] h=some (.slice h.next 0 4 4 false,h.new (.cells [.int .u8 a,.int .u8 b,.int .u8 c,.int .u8 d] 5)):=rfl
theorem Blu{l:List Nat}(Q:10000<K)(s:Bs h x b off l)(hb:HB h)(S:∀b∈l,b<256)(h0:0<l.length)(T:l.length<=5000):
 Ok (Xv K Wc x h) fun v h'=>∃q',Ci h' v q' 5 1 (l++Uh 4 (F4 l)).length (Bc (l++Uh 4 (F4 l)))/\Ext h h'/\HB h'/\h.next<=q':=by
 unfold Wc;simp only[Xv,Aa];have J:(h.new (.cells Ba 119)).get h.next=some (.cells Ba 119):=Ac _ _
 have d:Ext h (h.new (.cells Ba 119)):=Ar.new _ _;generalize h.new (.cells Ba 119)=h1 at J d⊢;have g:=d.hb hb;rw[C8 J rfl,Am Rj];simp only[G8];refine(A28 (K:=K) Q (s.ext hb d) g S T).Ap ?_;rintro _ h2 ⟨rfl,m⟩;have o:=m.hb g;have s2:=(s.ext hb d).ext g m;rw[show Cd [(.int .u8 0)] 5 1 0 [] h2=some (.slice h2.next 0 0 0 false,h2.new (.cells [] 5))from rfl,Au];have A:Ext h2 (h2.new (.cells [] 5)):=Ar.new _ _;have C:=s2.ext o A;have n3:(h2.new (.cells [] 5)).next=h2.next+1:=rfl
 generalize h2.new (.cells [] 5)=h3 at A C n3⊢;have D:=A.hb o;refine(Ws (b:=h2.next) (e:=5) C.len (by omega) C.cells (by rw[Bi,bc]) 0).Ap ?_;rintro v h4 ⟨q',L,E,U⟩;have F:=E.hb D;rw[show ∀k:EV->R,Sj .u8 (Nk .u32 (F4 l)) k=k (Nk .u8 (F4 l%256))from fun k=>Axt];rw[show ∀k:EV->R,Af0 (bin TT .shr 117) (Nk .u32 (F4 l)) (.int .u64 8) k=k (Nk .u32 (F4 l/256))from fun k=>As5 (s:=8) (by decide)];rw[show ∀k:EV->R,Sj .u8 (Nk .u32 (F4 l/256)) k=k (Nk .u8 (F4 l/256%256))from fun k=>Axt];rw[show ∀k:EV->R,Af0 (bin TT .shr 117) (Nk .u32 (F4 l)) (.int .u64 16) k=k (Nk .u32 (F4 l/65536))from fun k=>As5 (s:=16) (by decide)];rw[show ∀k:EV->R,Sj .u8 (Nk .u32 (F4 l/65536)) k=k (Nk .u8 (F4 l/65536%256))from fun k=>Axt];rw[show ∀k:EV->R,Af0 (bin TT .shr 117) (Nk .u32 (F4 l)) (.int .u64 24) k=k (Nk .u32 (F4 l/16777216))from fun k=>As5 (s:=24) (by decide)];rw[show ∀k:EV->R,Sj .u8 (Nk .u32 (F4 l/16777216)) k=k (Nk .u8 (F4 l/16777216%256))from fun k=>Axt];rw[Boi,Au];have B:Ext h4 (h4.new (.cells (Bc (Uh 4 (F4 l))) 5)):=Ar.new _ _;have e5:Bc (Uh 4 (F4 l)) = [Nk .u8 (F4 l%256),Nk .u8 (F4 l/256%256),Nk .u8 (F4 l/65536%256),Nk .u8 (F4 l/16777216%256)]:=by rw[Bp7];rfl
 rw[e5]at B;have M:Ci (h4.new (.cells [Nk .u8 (F4 l%256),Nk .u8 (F4 l/256%256),Nk .u8 (F4 l/65536%256),Nk .u8 (F4 l/16777216%256)] 5)) v q' 5 1 l.length (Bc l):=L.frame fun y=>B.get _ (F _ _ (L.block y)) id
 have O:(h4.new (.cells [Nk .u8 (F4 l%256),Nk .u8 (F4 l/256%256),Nk .u8 (F4 l/65536%256),Nk .u8 (F4 l/16777216%256)] 5)).get h4.next=some (.cells [Nk .u8 (F4 l%256),Nk .u8 (F4 l/256%256),Nk .u8 (F4 l/65536%256),Nk .u8 (F4 l/16777216%256)] 5):=Ac _ _
 have V:(h4.new (.cells [Nk .u8 (F4 l%256),Nk .u8 (F4 l/256%256),Nk .u8 (F4 l/65536%256),Nk .u8 (F4 l/16777216%256)] 5)).next=h4.next+1:=rfl
 generalize h4.new (.cells [Nk .u8 (F4 l%256),Nk .u8 (F4 l/256%256),Nk .u8 (F4 l/65536%256),Nk .u8 (F4 l/16777216%256)] 5)=G at B M O V⊢;have H:O1 G 1 4 (.slice h4.next 0 4 4 false)=some (Bc (Uh 4 (F4 l))):=by
  show Xo G h4.next 0 4=_
  unfold Xo As0;rw[O,e5];rfl
 obtain⟨W,e6,X,n6,Y⟩:=Ze M rfl (by decide) (by decide) (by omega) H (by rw[Bi,H7]);rw[e6,Au];have hq:=U h0;have u:Ext h W:=by
  refine((d.trans m).trans ((A.trans E).trans B)).then Y fun j hj Z=>?_
  have:=d.next;have:=m.next;have:=hj.2;omega
 refine .ret ⟨G.next,?_,u,u.hb hb,?_⟩
 ·rw[Aty,aF,H7];exact X
 ·have:=d.next;have:=m.next;have:=E.next;omega
theorem Boo(k:EV->R):Kv Ake (bin TT .neq t) (Nk .u8 a) (Nk .u8 b) k=k (.bool (decide (¬a=b))):=by
 show k (Ake .u8 (Int.ofNat a) (Int.ofNat b))=_;rw[Bcn,Axq,Asq];exact congrArg (fun b=>k (.bool b)) (eK.2 (not_congr ⟨Int.ofNat.inj,congrArg _⟩))
noncomputable def A5p(l:List Nat):Bool:=decide (Uh 4 (F4 (l.take (l.length-4)))=l.drop (l.length-4))
def Bnc(h:Ab)(l:List Nat)(v:EV)(h':Ab):Prop:=Ext h h'/\HB h'/\((A5p l=false/\v=.tuple [.Ao,I 11])\/(A5p l=true/\∃y q',v=.tuple [y,I 0]/\Ci h' y q' 5 1 (l.take (l.length-4)).length (Bc (l.take (l.length-4)))/\h.next<=q'))
theorem Be8 {y:EV}{g:Nat}{l:List Nat}(h4:4<l.length)(W:l.length<=5000)(M:∀b∈l,b<256)(h0:Ab):∀(m i:Nat) (h:Ab),4-i<m->i<=4->HB h->Ext h0 h->Bs h x b off l->Bs h y b g (l.drop (l.length-4))->(∀j (hj:j<i),(l.drop (l.length-4))[j]? = some (F4 (l.take (l.length-4))/256^j%256)) ->
 Ok (Nt K m x (I ((l.length-4:Nat):Int)) (Nk .u32 (F4 (l.take (l.length-4))/256^i)) y (I 4) (I i) h) (Bnc h0 l):=by
 intro m;have hd:(l.drop (l.length-4)).length=4:=by rw[ak];omega
 have hs:=Bav (l:=l.take (l.length-4)) fun b hb=>M b (bO hb)
 induction m with
 | zero=>intro i h hm;omega
 | succ m O=>
  intro i h hm X hb A F G hj;simp only[Nt,I,Ad,Aa];by_cases o:(i:Int)<4
  ·have d:i<(l.drop (l.length-4)).length:=by omega
   obtain⟨e1,e2⟩:=G.ix d;simp only[o,aB,Aa,Agi,e1,e2];rw[wrap_u8];rw[Boo];by_cases B:(l.drop (l.length-4))[i]=F4 (l.take (l.length-4))/256^i%256
   ·simp only[B,aD,aA,Aa,Ahe]
    rw[show ∀k:EV->R,Af0 (bin TT .shr 117) (Nk .u32 (F4 (l.take (l.length-4))/256^i)) (.int .u64 8) k=k (Nk .u32 (F4 (l.take (l.length-4))/256^i/256))from fun k=>As5 (s:=8) (by decide)];simp only[Agr,I,Ad];rw[Cn (by omega) (by omega),eP,<-eE];refine O (i+1) h (by omega) (by omega) hb A F G fun j Q=>?_
    by_cases D:j=i
    ·subst D;rw[aH d,B]
    ·exact hj j (by omega)
   ·simp only[B,aG,aB,Aa]
    refine .ret ⟨A,hb,.inl ⟨aQ fun y=>B ?_,rfl⟩⟩;have:=congrArg (fun z=>z[i]?) y;simp only[Uh]at this;rw[aH d,av,cF (by omega)]at this;exact(fK this).symm
  ·have:i=4:=by omega
   subst this;simp only[o,aA,Aa,Ag4];have S:A5p l=true:=aP (by
    apply eA;intro j;by_cases u:j<4
    ·rw[hj j u];unfold Uh;rw[av,cF u];rfl
    ·rw[cA (by rw[H7];omega),cA (by omega)])
   rw[show Cd [(.int .u8 0)] 5 1 0 [] h=some (.slice h.next 0 0 0 false,h.new (.cells [] 5))from rfl,Au];have C:Ext h (h.new (.cells [] 5)):=Ar.new _ _;have H:=F.ext hb C;have n3:(h.new (.cells [] 5)).next=h.next+1:=rfl
   generalize h.new (.cells [] 5)=Y at C H n3⊢;have E:=C.hb hb;obtain⟨w,e3,J⟩:=H.take (n:=l.length-4) (by omega);rw[e3];refine(Ws (b:=h.next) (e:=5) J.len (by rw[bJ];omega) J.cells (by rw[Bi,bc]) 0).Ap ?_;rintro v T ⟨q',U,L,V⟩;refine .ret ⟨A.trans (C.trans L),L.hb E,.inr ⟨S,v,q',rfl,U,?_⟩⟩;have:=V (by rw[bJ];omega);have:=A.next
   omega
theorem Bkq{r:Nat}{l:List Nat}(A:10000<K)(s:Bs h (.slice b off l.length r op) b off l)(hb:HB h)(y:∀b∈l,b<256)(h4:4<l.length)(B:l.length<=5000):
 Ok (Wh K Wc (.slice b off l.length r op) h) (Bnc h l):=by
 unfold Wc;simp only[Wh,Aa];have o:(h.new (.cells Ba 119)).get h.next=some (.cells Ba 119):=Ac _ _
 have g:Ext h (h.new (.cells Ba 119)):=Ar.new _ _;generalize h.new (.cells Ba 119)=G at o g⊢;have d:=g.hb hb;have s1:=s.ext hb g;have C:=d _ _ o;simp only[Ad];rw[Cn (by omega) (by omega),show(l.length:Int)-4=((l.length-4:Nat):Int) by omega,show decide (((l.length-4:Nat):Int)<0)=false from aQ (by omega)];simp only[Aa,Ahk,Ah C,Aw,C8 o rfl,Am Rj];obtain⟨w,e3,D⟩:=s1.take (n:=l.length-4) (by omega);rw[e3];refine Ok.Ds (by kernel_rfl) (by kernel_rfl) (A28 (K:=K) A D.lift (Du d) (fun b hb=>y b (bO hb)) (by rw[bJ];omega)) (fun _ _ p=>p.2) ?_;rintro _ h2 E ⟨rfl,_⟩ sm m;have u:=m.hb d;obtain⟨e5,F⟩:=(s1.ext d m).drop (n:=l.length-4) (by omega);rw[e5];simp only[Aa];have:=Be8 (K:=K) (x:=.slice b off l.length r op) h4 B y h K 0 E (by omega) (by decide) u (g.trans m) (s1.ext d m) F (fun j hj=>absurd hj (cT _));rw[Nat.pow_zero,Nat.div_one]at this;rw[show l.length-(l.length-4)=4 by omega]at this⊢;exact this
structure Rd(h:Ab)(R q off:Nat)(l:List Nat):Prop where
 N8:∃s,h.get R=some (.cells [s,.bool false] 365)/\lenOf s=some l.length/\(0<l.length->s=.slice q off l.length l.length true/\Bs h s q off l)
 ne:q<R
theorem Rd.ext{R:Nat}{l:List Nat}(d:Rd h R q off l)(hb:HB h)(c:Ext h h'):Rd h' R q off l:=by
 obtain⟨s,g,e,f⟩:=d.N8;exact⟨⟨s,c.at hb g,e,fun y=>⟨(f y).1,(f y).2.ext hb c⟩⟩,d.ne⟩
theorem Aun{l:List Nat}(s:Bs h x b off l)(hb:HB h)(h0:0<l.length)(C:l.length<=5000):
 Ok (Aiv K x h) fun v h'=>∃R q,v=.ptr R 0/\Rd h' R q 0 l/\Ext h h'/\HB h'/\h.next<=q:=by
 simp only[Aiv,dr];rw[show Cd [(.int .u8 0)] 5 1 0 [] h=some (.slice h.next 0 0 0 false,h.new (.cells [] 5))from rfl,Au];have g:Ext h (h.new (.cells [] 5)):=Ar.new _ _;have s1:=s.ext hb g;generalize h.new (.cells [] 5)=D at g s1⊢;have j:=g.hb hb;refine(Ws (b:=h.next) (e:=5) s1.len (by omega) s1.cells (by rw[Bi,bc]) 0).Ap ?_;rintro v h2 ⟨q',m,y,A⟩;have d:=y.hb j;have o:=m.slice h0;subst o;rw[Az (l:=[.slice q' 0 l.length l.length true,.bool false]) rfl];simp only[Aa];have u:Ext h2 (h2.new (.cells [.slice q' 0 l.length l.length true,.bool false] 365)):=Ar.new _ _;have B:=(m.bs h0).ext d u;refine .ret ⟨h2.next,q',rfl,⟨⟨_,Ac _ _,rfl,fun _=>⟨rfl,B⟩⟩,d _ _ (m.block h0)⟩,g.trans (y.trans u),u.hb d,?_⟩;have:=A h0;have:=g.next
 omega
theorem A60{R:Nat}{l:List Nat}(d:Rd h R q off l)(hb:HB h)(h0:0<n)(A:n<=l.length):
 Ok (J9 K (.ptr R 0) (I n) h) fun v h'=>Bs h' v q off (l.take n)/\Rd h' R q (off+n) (l.drop n)/\Ar (fun i=>i=R) h h'/\HB h':=by
 obtain⟨s,g,e,f⟩:=d.N8;obtain⟨rfl,s1⟩:=f (by omega);have u:=hb _ _ g;have B:R≠q:=by have:=d.ne;omega
 simp only[J9,Aa,Cy g rfl,Ad,I];rw[show decide ((n:Int)<0)=false from aQ (by omega)];simp only[Aa,Abj,Ad,Cy g rfl];rw[show decide ((l.length:Int)<(n:Int))=false from aQ (by omega)];simp only[Aa,Aal,Aam,Cy g rfl];have e1:∀k:EV->Go.Ev.R,Aik 1 (.slice q off l.length l.length true) none (some (.int .i64 (n:Int))) (some (.int .i64 (n:Int))) k=k (.slice q off n n false):=fun k=>by
  have:slc (.slice q off l.length l.length true) 1 none (some (.int .i64 (n:Int))) (some (.int .i64 (n:Int)))=some (.slice q off n n false):=by
   have b1:bound (some (.int .i64 (n:Int))) l.length 0=some n:=by
    show Bb (Nat.ble n l.length) (some n) none=_;rw[aR A,Al]
   have b2:bound (some (.int .i64 (n:Int))) n 0=some n:=by
    show Bb (Nat.ble n n) (some n) none=_;rw[aR (aC _),Al]
   unfold slc;simp only[b1,b2];show some (EV.slice q (Bb (Nat.beq n 0) off (Nat.add off (Nat.mul 0 1))) n n false)=_;rw[show Nat.add off (Nat.mul 0 1)=off from rfl];cases Nat.beq n 0<;>rfl
  unfold Aik;rw[this];rfl
 rw[e1];obtain⟨L,G,o,row,f1,f0,f2,f3,f4,f5⟩:=s1.N8;have j:(l.take n).length=n:=by rw[bJ,dR A]
 have m:(l.drop n).length=l.length-n:=ak;have F:Bs h (.slice q off n n false) q off (l.take n):=by
  refine⟨n,false,o,row,by rw[j],by rw[j];exact aC _,f2,f3,by rw[j];omega,?_⟩;rw[j];have:=congrArg (fun z=>z.take n) f5;simp only[List.take_take,dR A]at this;rw[this];unfold Bc;rw[List.map_take]
 have put:∀w:EV,(h.put R (.cells [w,.bool false] 365)).get q=h.get q:=fun w=>Af _ B
 rcases dH n l.length with C|H
 ·obtain⟨e2,s2⟩:=s1.drop C
  rw[e2];refine Ok.Zl g rfl rfl (by show 0<2;decide) ?_;refine .ret ⟨F.frame (put _),⟨⟨_,Ae _ _ _,by rw[m];rfl,fun _=>⟨by rw[m],s2.frame (put _)⟩⟩,d.ne⟩,(Ar.refl (S:=fun i=>i=R) h).Ak (.inl rfl) u _,hb.put u _⟩
 ·have D:n=l.length:=by omega
  subst D;have e2:∀k:EV->Go.Ev.R,Aik 1 (.slice q off l.length l.length true) (some (.int .i64 (l.length:Int))) none none k=k (.tail q (off+l.length) off):=fun k=>by
   have:slc (.slice q off l.length l.length true) 1 (some (.int .i64 (l.length:Int))) none none=some (.tail q (off+l.length) off):=by
    have b1:bound (some (.int .i64 (l.length:Int))) l.length 0=some l.length:=by
     show Bb (Nat.ble l.length l.length) (some l.length) none=_;rw[aR (aC _),Al]
    have b2:bound none l.length l.length=some l.length:=rfl;unfold slc;simp only[b1,b2];rw[Al];have z1:Nat.beq l.length 0=false:=by
     cases E:Nat.beq l.length 0 with
     | false=>rfl
     | true=>have:=aJ E;omega
    have J:Nat.ble (Nat.succ l.length) l.length=false:=by
     cases E:Nat.ble (Nat.succ l.length) l.length with
     | false=>rfl
     | true=>have:=bB E;omega
    rw[z1,Bl,J,Bl,cI,Al,Al,show Nat.mul l.length 1=l.length from bc _];rfl
   unfold Aik;rw[this];rfl
  rw[e2];refine Ok.Zl g rfl rfl (by show 0<2;decide) ?_;refine .ret ⟨F.frame (put _),⟨⟨_,Ae _ _ _,by rw[m,fH];rfl,fun y=>by rw[m,fH]at y;exact absurd y (bS _)⟩,d.ne⟩,(Ar.refl (S:=fun i=>i=R) h).Ak (.inl rfl) u _,hb.put u _⟩
def Xk:List Nat->Nat
 | []=>0
 | b::r=>b+256*Xk r
theorem A3q:∀(a:List Nat) (b:Nat),Xk (a++[b])=Xk a+256^a.length*b
 | [],b=>by simp[Xk]
 | x::a,b=>by
  have:=A3q a b;simp only[List.cons_append,Xk,this,bH,eE];rw[Nat.mul_add,<-Nat.add_assoc,fI (256^a.length) 256,Nat.mul_assoc]
theorem A9u:∀(a:List Nat),(∀b∈a,b<256)->Xk a<256^a.length
 | [],_=>by simp[Xk]
 | x::a,h=>by
  have d:=h x (aV ..);have h2:=A9u a fun b hb=>h b (aT _ hb)
  simp only[Xk,bH,eE];omega
theorem wrap_u64(a:Nat):Cx .u64 (Int.ofNat a)=Int.ofNat (a%18446744073709551616):=by
 rw[Ly];rfl
theorem Bkz {s:Nat}(hs:s<=64)(hb:a*2^s<9223372036854775808){k:EV->Go.Ev.R}:Af0 (bin TT .shl t) (.int .i64 (Int.ofNat a)) (.int .u64 (Int.ofNat s)) k=k (Nk .i64 (a*2^s)):=by
 show k (.int .i64 (Cx .i64 (Int.mul (.ofNat a) (.ofNat (Nat.pow 2 (Bb (Nat.ble s 64) s 64))))))=_;rw[aR hs,Al];have:Int.mul (.ofNat a) (.ofNat (Nat.pow 2 s))=((a*2^s:Nat):Int):=rfl;rw[this,Cn (by omega) (by omega)];rfl
theorem Bnw(h:a||| b<9223372036854775808){k:EV->Go.Ev.R}:Af0 (bin TT .or t) (.int .i64 (Int.ofNat a)) (.int .i64 (Int.ofNat b)) k=k (Nk .i64 (a||| b)):=by
 show k (.int .i64 (Cx .i64 (.ofNat (Nat.lor a b))))=_;have:Int.ofNat (Nat.lor a b)=((a||| b:Nat):Int):=rfl;rw[this,Cn (by omega) (by omega)];rfl
theorem Bgl{l:List Nat}(A:∀b∈l,b<256)(F:l.length<=7):∀(m i:Nat) (h:Ab),l.length-i<m->i<=l.length->Bs h x b off l ->
 Kr K m (Nk .i64 (Xk (l.take i))) x (I l.length) (I i) h=some (Nk .i64 (Xk l),h):=by
 intro m;induction m with
 | zero=>intro i h hm;omega
 | succ m D=>
  intro i h hm E s;simp only[Kr,I,Ad,Aa];by_cases j:(i:Int)<l.length
  ·have d:i<l.length:=by omega
   obtain⟨e1,e2⟩:=s.ix d;have hb:=A _ (bF d);simp only[j,aB,Aa,Adi,e1,e2,Ad];have B:(256:Nat)^i=2^(8*i):=by rw[Nat.pow_mul]
   have g:(256:Nat)^i<=256^6:=eY (by decide) (by omega);have g:(256:Nat)^i<=281474976710656:=g;have hmul:l[i]*256^i<=255*281474976710656:=fP (by omega) g;rw[show Cx .i64 (Int.ofNat l[i])=Int.ofNat l[i]from Cn (by show _<=((l[i]:Nat):Int);omega) (by show((l[i]:Nat):Int)<=_;omega)];rw[show(8:Int)*(i:Int)=((8*i:Nat):Int) by omega,Cn (by omega) (by omega)];rw[show Cx .u64 ((8*i:Nat):Int)=Int.ofNat (8*i)from by have:=wrap_u64 (8*i);rw[ek (by omega)]at this;exact this];rw[Bkz (by omega) (by rw[<-B];omega)];have C:(l.take i).length=i:=by rw[bJ,dR E]
   have o:Xk (l.take i)<2^(8*i):=by
    have:=A9u (l.take i) fun b hb=>A b (bO hb)
    rw[C,B]at this;exact this
   have u:Xk (l.take i)||| l[i]*2^(8*i)=Xk (l.take (i+1)):=by
    rw[List.take_add_one,aH d];show _=Xk (l.take i++[l[i]]);rw[A3q,C,Nat.or_comm,fI l[i],<-Nat.two_pow_add_eq_or_of_lt o,B,Nat.add_comm]
   have y:Xk (l.take (i+1))<9223372036854775808:=by
    have:=A9u (l.take (i+1)) fun b hb=>A b (bO hb)
    have h2:(256:Nat)^(l.take (i+1)).length<=256^7:=eY (by decide) (by rw[bJ];omega);have G:(256:Nat)^7=72057594037927936:=by decide
    omega
   rw[Bnw (by rw[u];exact y),u];simp only[Adm,I,Ad];rw[Cn (by omega) (by omega)];exact D (i+1) h (by omega) (by omega) s
  ·have:i=l.length:=by omega
   subst this;simp only[j,aA,Aa,Adt,cM]
theorem Afs{R w:Nat}{l:List Nat}(d:Rd h R q off l)(hb:HB h)(u:1000<K)(m:1<=w)(y:w<=7)(j:w<=l.length)(o:∀b∈l,b<256):
 Ok (Jj K (.ptr R 0) (I w) h) fun v h'=>v=Nk .i64 (Xk (l.take w))/\Rd h' R q (off+w) (l.drop w)/\Ar (fun i=>i=R) h h'/\HB h':=by
 simp only[Jj,dr];rw[Ab6,aP ⟨by omega,by omega⟩];simp only[Aa,Ac8];refine(A60 (K:=K) d hb m j).Ap ?_;rintro v h2 ⟨s,d2,c2,g⟩;rw[s.Hz];have A:(l.take w).length=w:=by rw[bJ,dR j]
 have:=Bgl (K:=K) (l:=l.take w) (fun b hb=>o b (bO hb)) (by omega) K 0 h2 (by omega) (cU _) s;rw[show EV.int .i64 0=Nk .i64 (Xk ((l.take w).take 0))from rfl];exact⟨_,_,this,rfl,d2,c2,g⟩
theorem A6m{R:Nat}{l:List Nat}(d:Rd h R q off l)(hb:HB h)(h0:0<n)(g:n<=l.length):
 Ok (Lu K (.ptr R 0) (I n) h) fun v h'=>Bs h' v q off (l.take n)/\Rd h' R q (off+n) (l.drop n)/\Ar (fun i=>i=R) h h'/\HB h':=by
 simp only[Lu,dr];refine(A60 (K:=K) d hb h0 g).Ap ?_;intro v h2 p;exact .ret p
theorem Bky{R:Nat}(d:Rd h R q off []):Q5 K (.ptr R 0) h=some (I 0,h):=by
 obtain⟨s,g,e,f⟩:=d.N8;simp only[Q5,Aa,Cy g rfl,Ad];have:∀k:EV->Go.Ev.R,Hz s k=k (I 0):=fun k=>by unfold Hz;rw[e];rfl
 rw[this];simp only[I,Ad];rfl
structure Fr where
 kind:Int
 An:Int
 off:Int
 Av:Int
 seq:Int
 body:List Nat
def Fr.cells(f:Fr):List EV:=[I f.kind,I f.An,I f.off,I f.Av,I f.seq]++Bc f.body
structure Fr.Wf(f:Fr):Prop where
 len:f.body.length=44
 u8:∀b∈f.body,b<256
def frB(f:Fr):Bool:=wi f.kind 1 5&&(wi f.An 0 65535&&(wi f.off 0 65535&&(wi f.Av 1 4294967295&&wi f.seq 0 281474976710655)))
theorem Qk(n a b:Int)(h:Ab):My K (.int .i64 n) (.int .i64 a) (.int .i64 b) h=some (.bool (wi n a b),h):=by
 simp only[My,Ad,Aa];by_cases d:a<=n
 ·simp only[d,aB,Aa,Ad,Abx,wi,aZ]
 ·simp only[d,aA,Aa,Abx,wi,aX]
theorem Fr.Bk {f:Fr}(w:f.Wf):f.cells.length=49:=by
 unfold Fr.cells;rw[aF,Bi,w.len];rfl
theorem Aer(f:Fr):Ok (J7 K (.agg f.cells) h) fun v h'=>v=.bool (frB f)/\Ext h h':=by
 simp only[J7,Aa];have d:Ext h (h.new (.cells f.cells 247)):=Ar.new _ _;have g:(h.new (.cells f.cells 247)).get h.next=some (.cells f.cells 247):=Ac _ _
 generalize h.new (.cells f.cells 247)=u at d g⊢;have l0:f.cells[0]? = some (I f.kind):=rfl;have l1:f.cells[1]? = some (I f.An):=rfl;have j:f.cells[2]? = some (I f.off):=rfl;have m:f.cells[3]? = some (I f.Av):=rfl;have o:f.cells[4]? = some (I f.seq):=rfl;simp only[Cy g rfl,Aa,l0,I,Qk,Ad];unfold frB;cases wi f.kind 1 5 with
 | false=>simp only[Aa,Sv,Ny,J1,Hm,Ad];exact .ret ⟨rfl,d⟩
 | true=>
 simp only[Aa,Cy g rfl,l1,I,Qk,Ad,Sv];cases wi f.An 0 65535 with
 | false=>simp only[Aa,Ny,J1,Hm,Ad];exact .ret ⟨rfl,d⟩
 | true=>
 simp only[Aa,Cy g rfl,j,I,Qk,Ad,Ny];cases wi f.off 0 65535 with
 | false=>simp only[Aa,J1,Hm,Ad];exact .ret ⟨rfl,d⟩
 | true=>
 simp only[Aa,Cy g rfl,m,I,Qk,Ad,J1];cases wi f.Av 1 4294967295 with
 | false=>simp only[Aa,Hm,Ad];exact .ret ⟨rfl,d⟩
 | true=>
 simp only[Aa,Cy g rfl,o,I,Qk,Ad,Hm];exact .ret ⟨by simp only[aZ],d⟩
def A2j(f:Fr):List Nat:=Uh 1 f.kind.toNat++Uh 1 1++Uh 2 f.An.toNat++Uh 2 f.off.toNat++Uh 4 f.Av.toNat++Uh 6 f.seq.toNat++f.body
noncomputable def Tc(f:Fr):List Nat:=A2j f++Uh 4 (F4 (A2j f))
theorem Za(w a:Nat):∀b∈Uh w a,b<256:=fun b hb=>by
 unfold Uh at hb;obtain⟨i,_,rfl⟩:=cJ.1 hb;exact Nat.mod_lt _ (by decide)
theorem Atr {f:Fr}(w:f.Wf):(A2j f).length=60:=by
 unfold A2j;simp only[aF,H7,w.len]
theorem As3 {f:Fr}(w:f.Wf):(Tc f).length=64:=by
 unfold Tc;rw[aF,Atr w,H7]
theorem Bcd {f:Fr}(w:f.Wf):∀b∈A2j f,b<256:=fun b hb=>by
 unfold A2j at hb;simp only[bL]at hb;rcases hb with(((((hb|hb)|hb)|hb)|hb)|hb)|hb
 ·exact Za _ _ b hb
 ·exact Za _ _ b hb
 ·exact Za _ _ b hb
 ·exact Za _ _ b hb
 ·exact Za _ _ b hb
 ·exact Za _ _ b hb
 ·exact w.u8 b hb
theorem Bbp {f:Fr}(w:f.Wf):∀b∈Tc f,b<256:=fun b hb=>by
 unfold Tc at hb;rcases bL.1 hb with hb|hb
 ·exact Bcd w b hb
 ·exact Za _ _ b hb
theorem X5 {w:Nat}{b:Int}(h0:0<=v)(hb:v<=b)(hw:b<(256^w:Nat)):fits w v=true:=aP ⟨h0,by omega⟩
theorem Alw{f:Fr}(w:f.Wf)(hr:frB f=true)(hb:HB h)(hK:10000<K):
 Ok (Wu K Wc (.agg f.cells) h) fun v h'=>v=.tuple [.agg (Bc (Tc f)),I 0]/\Ext h h':=by
 have aa:=hr;simp only[frB,bI]at aa;obtain⟨r1,r2,r3,r4,r5⟩:=aa;obtain⟨a1,b1⟩:=N2.1 r1;obtain⟨a2,b2⟩:=N2.1 r2;obtain⟨a3,b3⟩:=N2.1 r3;obtain⟨a4,b4⟩:=N2.1 r4;obtain⟨a5,b5⟩:=N2.1 r5;have l0:f.cells[0]? = some (I f.kind):=rfl;have l1:f.cells[1]? = some (I f.An):=rfl;have l2:f.cells[2]? = some (I f.off):=rfl;have l3:f.cells[3]? = some (I f.Av):=rfl;have l4:f.cells[4]? = some (I f.seq):=rfl;have ab:=Fr.Bk w;unfold Wc;simp only[Wu,Aa];have x1:Ext h (((h.new (.cells Ba 119)).new (.cells f.cells 247)).new (.cells Uo 30)):=((Ar.new _ _).Di _).Di _;have u:(((h.new (.cells Ba 119)).new (.cells f.cells 247)).new (.cells Uo 30)).get h.next=some (.cells Ba 119):=by
  rw[Ay _ (by show h.next<h.next+1+1;omega),Ay _ (aE _)];exact Ac _ _
 have m:(((h.new (.cells Ba 119)).new (.cells f.cells 247)).new (.cells Uo 30)).get (h.next+1)=some (.cells f.cells 247):=by
  rw[Ay _ (by show h.next+1<h.next+1+1;omega)];exact Ac _ _
 have d:(((h.new (.cells Ba 119)).new (.cells f.cells 247)).new (.cells Uo 30)).get (h.next+2)=some (.cells Uo 30):=Ac _ _;have n1:(((h.new (.cells Ba 119)).new (.cells f.cells 247)).new (.cells Uo 30)).next=h.next+3:=rfl
 rw[show(h.new (.cells Ba 119)).next=h.next+1 from rfl,show((h.new (.cells Ba 119)).new (.cells f.cells 247)).next=h.next+2 from rfl,show List.replicate 64 (EV.int .u8 0)=Uo from rfl];generalize ((h.new (.cells Ba 119)).new (.cells f.cells 247)).new (.cells Uo 30)=h1 at x1 u m d n1⊢;have G:=x1.hb hb;rw[C8 m rfl,Am ab];simp only[G8];refine(Aer (K:=K) f).Ap ?_;rintro _ h2 ⟨rfl,X⟩;rw[hr];simp only[Aa,Al2];have H:=X.hb G;have aj:=x1.trans X;have u:=X.at G u;have m:=X.at G m;have d:=X.at G d;have n2:h.next+3<=h2.next:=by have:=X.next;omega
 have p0:A0e (h2.new (.cells [.Ao,.bool false] 350)) h2.next 350 [] false:=⟨.Ao,0,Ac _ _,.nil _ _ _ _,fun y=>absurd y (bS _)⟩
 have Y:Ext h2 (h2.new (.cells [.Ao,.bool false] 350)):=Ar.new _ _;have u:=Y.at H u;have m:=Y.at H m;have d:=Y.at H d;have C:=Y.hb H;have ad:=aj.trans Y;generalize h2.new (.cells [.Ao,.bool false] 350)=h3 at p0 Y u m d C ad⊢;generalize hP:h2.next=P at p0 n2⊢
 have up:∀{Z hc:Ab},Ext h Z->Ar (fun i=>P<=i) Z hc->Ext h hc:=fun x c=>x.then c fun j hj hl=>by
  have hj:P<=j:=hj;omega
 have A:∀{Z hc:Ab} {i:Nat} {o:Dz},Ar (fun i=>P<=i) Z hc->HB Z->Z.get i=some o->i<P->hc.get i=some o:=fun c hb g hi=>c.at hb g (by omega)
 simp only[Cy m rfl,l0];simp only[G8];refine(Lo (K:=K) (w:=1) (by omega) p0 C (by simp) (by decide) (by decide) (v:=f.kind) (by omega)).Ap ?_;rintro _ h5 ⟨p,c,J⟩;rw[X5 (b:=5) (by omega) b1 (by decide),aN rfl]at p;have x5:=up ad c;have u:=A c C u (by omega);have m:=A c C m (by omega);have d:=A c C d (by omega);refine(Lo (K:=K) (w:=1) (by omega) p J (by simp[H7]) (by decide) (by decide) (v:=1) (by omega)).Ap ?_;rintro _ h6 ⟨p,c,L⟩;rw[X5 (b:=1) (by omega) (Int.le_refl _) (by decide),aN rfl]at p;have x6:=up x5 c;have u:=A c J u (by omega);have m:=A c J m (by omega);have d:=A c J d (by omega);simp only[Aa,Cy m rfl,l1];refine(Lo (K:=K) (w:=2) (by omega) p L (by simp[H7]) (by decide) (by decide) (v:=f.An) (by omega)).Ap ?_;rintro _ h7 ⟨p,c,M⟩;rw[X5 (b:=65535) a2 b2 (by decide),aN rfl]at p;have x7:=up x6 c;have u:=A c L u (by omega);have m:=A c L m (by omega);have d:=A c L d (by omega);simp only[Aa,Cy m rfl,l2];refine(Lo (K:=K) (w:=2) (by omega) p M (by simp[H7]) (by decide) (by decide) (v:=f.off) (by omega)).Ap ?_;rintro _ h8 ⟨p,c,O⟩;rw[X5 (b:=65535) a3 b3 (by decide),aN rfl]at p;have x8:=up x7 c;have u:=A c M u (by omega);have m:=A c M m (by omega);have d:=A c M d (by omega);simp only[Aa,Cy m rfl,l3];refine(Lo (K:=K) (w:=4) (by omega) p O (by simp[H7]) (by decide) (by decide) (v:=f.Av) (by omega)).Ap ?_;rintro _ h9 ⟨p,c,Q⟩;rw[X5 (b:=4294967295) (by omega) b4 (by decide),aN rfl]at p;have x9:=up x8 c;have u:=A c O u (by omega);have m:=A c O m (by omega);have d:=A c O d (by omega);simp only[Aa,Cy m rfl,l4];refine(Lo (K:=K) (w:=6) (by omega) p Q (by simp[H7]) (by decide) (by decide) (v:=f.seq) (by omega)).Ap ?_;rintro _ af ⟨p,c,D⟩;rw[X5 (b:=281474976710655) a5 b5 (by decide),aN rfl]at p;have al:=up x9 c;have u:=A c Q u (by omega);have m:=A c Q m (by omega);have d:=A c Q d (by omega)
 try simp only[Aa]
 rw[show ∀k:EV->R,Qi 44 1 (.ptr (h.next+1) 5) none none none k=k (.slice (h.next+1) 5 44 44 false)from fun k=>rfl];have ao:O1 af 1 44 (.slice (h.next+1) 5 44 44 false)=some (Bc f.body):=by
  show Xo af (h.next+1) 5 44=_;unfold Xo As0;rw[m];show Mh f.cells 5 44=_;rw[Fc (by rw[ab];decide)];show some (List.take 44 (Bc f.body))=_;rw[bP (by rw[Bi,w.len];decide)]
 refine(Ats (K:=K) (n:=44) p D (by simp[H7]) rfl (by decide) (by decide) ao w.len).Ap ?_;rintro _ b8 ⟨p,c,E⟩;have aq:=up al c;have u:=A c D u (by omega);have d:=A c D d (by omega);have ep:([]++Uh 1 f.kind.toNat++Uh 1 (1:Int).toNat++Uh 2 f.An.toNat++Uh 2 f.off.toNat++Uh 4 f.Av.toNat++Uh 6 f.seq.toNat++f.body)=A2j f:=by
  unfold A2j;rw[dJ];rfl
 have ag:∀b:Bool,(b||!true)=b:=by decide
 rw[ep]at p;simp only[ag]at p;refine(Ayu (K:=K) p E (by rw[Atr w];decide)).Ap ?_;rintro _ ca ⟨y,q',rfl,ry,F,T,lq⟩;have u:=F.at E u;have d:=F.at E d;simp only[Aa,I,Ad];simp only[aD,aA,Aa,Aln];rw[C8 u rfl,Am Rj];simp only[G8];have U:0<(A2j f).length:=by rw[Atr w];decide
 refine(Blu (K:=K) hK (ry.bs U) T (Bcd w) U (by rw[Atr w];decide)).Ap ?_;rintro v W ⟨q2,S,V,ah,cf⟩;have S:Ci W v q2 5 1 (Tc f).length (Bc (Tc f)):=S;have d:=V.at T d;have B:=As3 w;have aw:=S.slice (by rw[B];decide);subst aw;rw[show ∀k:EV->R,Azf 64 (.slice q2 0 (Tc f).length (Tc f).length true) k=k (.ptr q2 0)from fun k=>by rw[B];rfl];rw[C8 (S.block (by rw[B];decide)) rfl,Am (by rw[Bi,B])];simp only[G8];refine Ok.st (Bc (Tc f)) d rfl (by show F9 (Bc (Tc f))=64;rw[Bf,Bi,B]) (Bm (by rw[Kt];show 64=(Bc (Tc f)).length;rw[Bi,B])) ?_;have ax:(W.put (h.next+2) (.cells (Bc (Tc f)) 30)).get (h.next+2)=some (.cells (Bc (Tc f)) 30):=Ae _ _ _;rw[Fu ax Aw3.1 Aw3.2 (by rw[Bi,B])];have xx:Ext h W:=aq.trans (F.trans V);exact .ret ⟨rfl,xx.Ak (.inr (by omega)) (ah _ _ d) _⟩
variable {f:Fr}
theorem Ok.Ayp{o:Nat}{l:List EV}{v:EV}{kk:Ab->R}{Q:EV->Ab->Prop}(d:h.get i=some (.cells l t))(hb:HB h)(g:v.plain=true)(m:v.cells = [v])(u:o<l.length)
 (y:∀h',h'.get i=some (.cells (l.set o v) t)->Ar (fun j=>j=i) h h'->HB h'->Ok (kk h') Q):Ok (stE 1 (.ptr i o) v h kk) Q:=by
 have lt:=hb _ _ d;exact Ok.Zl d g m u (y _ (Ae _ _ _) ((Ar.refl (S:=fun j=>j=i) h).Ak (.inl rfl) lt _) (hb.put lt _))
theorem Aje:∀(hd Cr new:List EV),Cr.length=new.length->F6 (hd++Cr) hd.length new=some (hd++new)
 | [],Cr,new,h=>by
  have:=Bm (l:=Cr) (vs:=new) h;rw[Ui]at this;exact this
 | a::hd,Cr,new,h=>by
  have d:=Aje hd Cr new h;show Bb (Nat.beq (hd.length+1) 0) _ (match F6 (hd++Cr) hd.length new with|some x=>some (a::x)|none=>none)=_;rw[show Nat.beq (hd.length+1) 0=false from rfl,Bl,d];rfl
theorem A34{r:Nat}{t:TypeId}{hd Cr new:List EV}{y:EV}(g:h.get i=some (.cells (hd++Cr) t))(m:lenOf y=some n)(o:0<n)(j:O1 h 1 n y=some new)(u:new.length=n)(A:Cr.length=n):
 builtin TT .copy #[184,184] [.slice i hd.length n r op,y] h=some (I n,h.put i (.cells (hd++new) t)):=by
 have hu:TT.Tv 184=some (.slice 5):=by kernel_rfl
 have hs:TT.size 5=some 1:=by kernel_rfl
 have hb:Nat.ble n n=true:=aR (aC _);have h0:Nat.beq n 0=false:=by cases n with|zero=>omega|succ n=>rfl
 have hw:L9 h i hd.length new=some (h.put i (.cells (hd++new) t)):=by
  unfold L9;rw[g];simp only;rw[Aje hd Cr new (by omega)]
 rw[Apk]at j;have d:lenOf (.slice i hd.length n r op)=some n:=rfl;unfold builtin;simp only[hu,hs,d,m,hb,Al,h0,Bl,j,hw];rfl
theorem Rd.chg{R:Nat}{l:List Nat}{S:Nat->Prop}(d:Rd h R q off l)(hb:HB h)(c:Ar S h h')(j:¬S q)(m:¬S R):Rd h' R q off l:=by
 obtain⟨s,g,e,f⟩:=d.N8;exact⟨⟨s,c.at hb g m,e,fun y=>⟨(f y).1,(f y).2.frame (c.get _ ((f y).2.lt hb) j)⟩⟩,d.ne⟩
def Fr.zero:Fr:=⟨0,0,0,0,0,List.replicate 44 0⟩
theorem Fr.Ib:List.replicate 5 (EV.int .i64 0)++List.replicate 44 (EV.int .u8 0)=Fr.zero.cells:=by kernel_rfl
def Ah6(p:List Nat):Fr:=⟨Xk (p.take 1),Xk (((p.drop 1).drop 1).take 2),Xk ((((p.drop 1).drop 1).drop 2).take 2),Xk (((((p.drop 1).drop 1).drop 2).drop 2).take 4),Xk ((((((p.drop 1).drop 1).drop 2).drop 2).drop 4).take 6),(((((((p.drop 1).drop 1).drop 2).drop 2).drop 4).drop 6).take 44)⟩
noncomputable def Zv(s:List Nat):Fr × Int:=
 if A5p s=false then(Fr.zero,11)else
 if Xk (((s.take 60).drop 1).take 1)=1/\frB (Ah6 (s.take 60))=true then(Ah6 (s.take 60),0)else(Fr.zero,10)
theorem A1w:TT.size 247=some 49/\TT.agg 247=some true:=⟨by kernel_rfl,by kernel_rfl⟩
theorem Ayx(d:p.length=60)(hu:∀b∈p,b<256):(Ah6 p).Wf:=by
 refine⟨?_,fun b hb=>hu b ?_⟩
 ·simp only[Ah6,bJ,ak,d];decide
 ·simp only[Ah6]at hb
  exact aM (aM (aM (aM (aM (aM (bO hb))))))
theorem Fr.G7:Fr.zero.Wf:=⟨by simp[Fr.zero],fun b hb=>by rw[bZ hb];decide⟩
theorem Bl3 {s:List Nat}(d:s.length=64)(hu:∀b∈s,b<256):(Zv s).1.Wf:=by
 unfold Zv;split
 ·exact Fr.G7
 ·split
  ·exact Ayx (by rw[bJ,d];decide) fun b hb=>hu b (bO hb)
  ·exact Fr.G7
theorem Aw6{s:List Nat}(hl:s.length=64)(hu:∀b∈s,b<256)(hb:HB h)(hK:10000<K):
 Ok (Adu K Wc (.agg (Bc s)) h) fun v h'=>v=.tuple [.agg (Zv s).1.cells,I (Zv s).2]/\Ext h h':=by
 unfold Wc;simp only[Adu,Aa];rw[Fr.Ib];have x1:Ext h (((h.new (.cells Ba 119)).new (.cells (Bc s) 30)).new (.cells Fr.zero.cells 247)):=((Ar.new _ _).Di _).Di _;have g2:(((h.new (.cells Ba 119)).new (.cells (Bc s) 30)).new (.cells Fr.zero.cells 247)).get h.next=some (.cells Ba 119):=by
  rw[Ay _ (by show h.next<h.next+1+1;omega),Ay _ (aE _)];exact Ac _ _
 have g3:(((h.new (.cells Ba 119)).new (.cells (Bc s) 30)).new (.cells Fr.zero.cells 247)).get (h.next+1)=some (.cells (Bc s) 30):=by
  rw[Ay _ (by show h.next+1<h.next+1+1;omega)];exact Ac _ _
 have u:(((h.new (.cells Ba 119)).new (.cells (Bc s) 30)).new (.cells Fr.zero.cells 247)).get (h.next+2)=some (.cells Fr.zero.cells 247):=Ac _ _;have n1:(((h.new (.cells Ba 119)).new (.cells (Bc s) 30)).new (.cells Fr.zero.cells 247)).next=h.next+3:=rfl
 rw[show(h.new (.cells Ba 119)).next=h.next+1 from rfl,show((h.new (.cells Ba 119)).new (.cells (Bc s) 30)).next=h.next+2 from rfl];generalize ((h.new (.cells Ba 119)).new (.cells (Bc s) 30)).new (.cells Fr.zero.cells 247)=h1 at x1 g2 g3 u n1⊢;have aj:=x1.hb hb;have dm:=aj _ _ g2;have zl:=Fr.Bk Fr.G7;have fin:∀(f:Fr) (e:Int) (h5:Ab) (kk:Ab->R),(∀h',kk h'=I9 TT [.c (.ptr (h.next+2) 0) 247,.v (I e)] h')->HB h5->Ext h h5->h5.get (h.next+2)=some (.cells Fr.zero.cells 247)->f.Wf->(f,e)=Zv s ->
  Ok (stE 49 (.ptr (h.next+2) 0) (.agg f.cells) h5 kk) fun v h'=>v=.tuple [.agg (Zv s).1.cells,I (Zv s).2]/\Ext h h':=by
  intro f e h5 kk dt Y x5 g5 wf he;have fl:=Fr.Bk wf;refine Ok.st f.cells g5 rfl (by show F9 f.cells=49;rw[Bf,fl]) (Bm (by rw[zl];exact fl.symm)) ?_;have g6:(h5.put (h.next+2) (.cells f.cells 247)).get (h.next+2)=some (.cells f.cells 247):=Ae _ _ _;rw[dt,Fu g6 A1w.1 A1w.2 fl,<-he];exact .ret ⟨rfl,x5.Ak (.inr (by omega)) (Y _ _ g5) _⟩
 simp only[Ah dm,Aw,Aa,C8 g2 rfl,Am Rj];rw[show ∀k:EV->R,Qi 64 1 (.ptr (h.next+1) 0) none none none k=k (.slice (h.next+1) 0 64 64 false)from fun k=>rfl];have bs:Bs h1 (.slice (h.next+1) 0 s.length 64 false) (h.next+1) 0 s:=by
  refine⟨64,false,_,Bc s,rfl,by omega,g3,rfl,by rw[Bi];omega,?_⟩;rw[dA,<-Bi,cM]
 have b7:=Bkq (K:=K) hK bs.lift (Du aj) hu (by omega) (by omega);rw[hl]at b7;refine Ok.Ds (by kernel_rfl) (by kernel_rfl) b7 (fun _ _ p=>p.1) ?_;rintro v h2 h3 ⟨_,_,hv⟩ sm x3;have a6:=x3.hb aj;have u:=x3.at aj u;have b8:=x1.trans x3;rcases hv with⟨ho,rfl⟩|⟨ho,y,q',rfl,ry,lq⟩
 ·simp only[Aa,I,Ad]
  simp only[show ¬((11:Int)=0) by decide,aG,aB,Aa];rw[Az (l:=Fr.zero.cells) rfl];exact fin Fr.zero 11 h3 _ (fun _=>rfl) a6 b8 u Fr.G7 (by unfold Zv;rw[aN ho])
 ·have dw:¬A5p s=false:=by rw[ho];simp
  simp only[Aa,I,Ad];simp only[aD,aA,Aa,Als];have dx:s.length-4=60:=by omega
  rw[dx]at ry;have ca:(s.take 60).length=60:=by rw[bJ,hl];decide
  have J:∀b∈s.take 60,b<256:=fun b hb=>hu b (bO hb)
  have cc:Ci h3 y q' 5 1 (s.take 60).length (Bc (s.take 60)):=ry.frame fun _=>sm.get _
  have Z:Zv s=if Xk (((s.take 60).drop 1).take 1)=1/\frB (Ah6 (s.take 60))=true then(Ah6 (s.take 60),0)else(Fr.zero,10):=by unfold Zv;rw[aK dw]
  have F:=Ayx ca J;rw[Z]at fin⊢;unfold Ah6 at fin Z F⊢;generalize s.take 60=p at cc ca J fin Z F⊢;refine(Aun (K:=K) (cc.bs (by omega)) a6 (by omega) (by omega)).Ap ?_;rintro _ h5 ⟨W,q,rfl,d0,x5,Y,fm⟩;have u:=x5.at a6 u;have dy:=b8.trans x5;have fp:W<h5.next:=by obtain⟨_,g,_⟩:=d0.N8;exact Y _ _ g
  have fq:h.next+2<W:=by have:=d0.ne;have:=x3.next;omega
  have up:∀{L Q:Ab},Ext h L->Ar (fun i=>i=W) L Q->Ext h Q:=fun x c=>x.then c fun j hj dT=>by
   have hj:j=W:=hj;omega
  have m:∀{L Q:Ab} {i:Nat} {o:Dz},Ar (fun i=>i=W) L Q->HB L->L.get i=some o->i≠W->Q.get i=some o:=fun c hb g hi=>c.at hb g hi
  refine(Afs (K:=K) (w:=1) d0 Y (by omega) (by decide) (by decide) (by omega) J).Ap ?_;rintro _ h6 ⟨rfl,d1,c6,a7⟩;have u:=m c6 Y u (by omega);have x6:=up dy c6;rw[Az (l:=(⟨Xk (p.take 1),0,0,0,0,List.replicate 44 0⟩:Fr).cells) rfl]
  try simp only[Aa]
  rw[Fr.Ib];have x7:Ext h6 (h6.new (.cells Fr.zero.cells 247)):=Ar.new _ _;have A:(h6.new (.cells Fr.zero.cells 247)).get h6.next=some (.cells Fr.zero.cells 247):=Ac _ _
  have n7:(h6.new (.cells Fr.zero.cells 247)).next=h6.next+1:=rfl
  have u:=x7.at a7 u;have ao:=x7.hb a7;have d1:=d1.ext a7 x7;have ch:=x6.trans x7;have hF:W<h6.next:=by have:=c6.next;omega
  generalize h6.new (.cells Fr.zero.cells 247)=h7 at x7 A n7 u ao d1 ch⊢;generalize h6.next=C at A n7 hF⊢
  refine Ok.st (⟨Xk (p.take 1),0,0,0,0,List.replicate 44 0⟩:Fr).cells A rfl (by kernel_rfl) (Bm (by kernel_rfl)) ?_;have lF:=ao _ _ A;have A:(h7.put C (.cells (⟨Xk (p.take 1),0,0,0,0,List.replicate 44 0⟩:Fr).cells 247)).get C=some (.cells (⟨Xk (p.take 1),0,0,0,0,List.replicate 44 0⟩:Fr).cells 247):=Ae _ _ _;have u:(h7.put C (.cells (⟨Xk (p.take 1),0,0,0,0,List.replicate 44 0⟩:Fr).cells 247)).get (h.next+2)=some (.cells Fr.zero.cells 247):=by rw[Af _ (by omega)];exact u
  have d1:Rd (h7.put C (.cells (⟨Xk (p.take 1),0,0,0,0,List.replicate 44 0⟩:Fr).cells 247)) W q (0+1) (p.drop 1):=by
   have c:Ar (fun i=>i=C) h7 (h7.put C (.cells (⟨Xk (p.take 1),0,0,0,0,List.replicate 44 0⟩:Fr).cells 247)):=(Ar.refl (S:=fun i=>i=C) h7).Ak (.inl rfl) lF _;exact d1.chg ao c (by have:=d1.ne;intro y;omega) (by intro y;omega)
  have x8:Ext h (h7.put C (.cells (⟨Xk (p.take 1),0,0,0,0,List.replicate 44 0⟩:Fr).cells 247)):=ch.Ak (.inr (by omega)) lF _;have aq:=ao.put lF (.cells (⟨Xk (p.take 1),0,0,0,0,List.replicate 44 0⟩:Fr).cells 247);generalize h7.put C (.cells (⟨Xk (p.take 1),0,0,0,0,List.replicate 44 0⟩:Fr).cells 247)=h8 at A u d1 x8 aq⊢;refine(Afs (K:=K) (w:=1) d1 aq (by omega) (by decide) (by decide) (by simp only[ak];omega) (fun b hb=>J b (by revert hb;exact fun y=>aM y))).Ap ?_;rintro _ h9 ⟨rfl,d2,c9,ba⟩;have u:=m c9 aq u (by omega);have A:=m c9 aq A (by omega);have x9:=up x8 c9;refine(Afs (K:=K) (w:=2) d2 ba (by omega) (by decide) (by decide) (by simp only[ak];omega) (fun b hb=>J b (aM (aM hb)))).Ap ?_;rintro _ fv ⟨rfl,d3,bb,aa⟩;have u:=m bb ba u (by omega);have A:=m bb ba A (by omega);have ee:=up x9 bb;refine(Afs (K:=K) (w:=2) d3 aa (by omega) (by decide) (by decide) (by simp only[ak];omega) (fun b hb=>J b (aM (aM (aM hb))))).Ap ?_;rintro _ fw ⟨rfl,d4,bf,ab⟩;have u:=m bf aa u (by omega);have A:=m bf aa A (by omega);have ef:=up ee bf;refine(Afs (K:=K) (w:=4) d4 ab (by omega) (by decide) (by decide) (by simp only[ak];omega) (fun b hb=>J b (aM (aM (aM (aM hb)))))).Ap ?_;rintro _ fx ⟨rfl,d5,bj,ad⟩;have u:=m bj ab u (by omega);have A:=m bj ab A (by omega);have eg:=up ef bj;refine(Afs (K:=K) (w:=6) d5 ad (by omega) (by decide) (by decide) (by simp only[ak];omega) (fun b hb=>J b (aM (aM (aM (aM (aM hb))))))).Ap ?_;rintro _ fy ⟨rfl,d6,bk,ae⟩;have u:=m bk ad u (by omega);have A:=m bk ad A (by omega);have cm:=up eg bk;have af:∀{L Q:Ab},Ext h L->Ar (fun i=>i=C) L Q->Ext h Q:=fun x c=>x.then c fun j hj dT=>by
   have hj:j=C:=hj;omega
  have D:∀{L Q:Ab} {i:Nat} {o:Dz},Ar (fun i=>i=C) L Q->HB L->L.get i=some o->i≠C->Q.get i=some o:=fun c hb g hi=>c.at hb g hi
  have E:∀{L Q:Ab} {off:Nat} {l:List Nat},Ar (fun i=>i=C) L Q->HB L->Rd L W q off l->Rd Q W q off l:=fun c hb d=>d.chg hb c (by have:=d.ne;intro y;omega) (by intro y;omega)
  have hz:(⟨Xk (p.take 1),0,0,0,0,List.replicate 44 0⟩:Fr).cells.length=49:=by kernel_rfl
  refine Ok.Ayp A ae rfl rfl (by rw[hz];decide) ?_;intro fz A bn ag;have u:=D bn ae u (by omega);have d6:=E bn ae d6;have ei:=af cm bn
  try simp only[Aa]
  refine Ok.Ayp A ag rfl rfl (by rw[bR,hz];decide) ?_;intro fA A bo ah;have u:=D bo ag u (by omega);have d6:=E bo ag d6;have ct:=af ei bo
  try simp only[Aa]
  refine Ok.Ayp A ah rfl rfl (by rw[bR,bR,hz];decide) ?_;intro fT A bp ai;have u:=D bp ah u (by omega);have d6:=E bp ah d6;have ej:=af ct bp
  try simp only[Aa]
  refine Ok.Ayp A ai rfl rfl (by rw[bR,bR,bR,hz];decide) ?_;intro cx A bt T;have u:=D bt ai u (by omega);have d6:=E bt ai d6;have cG:=af ej bt
  try simp only[Aa]
  have A:cx.get C=some (.cells ([Nk .i64 (Xk (p.take 1)),Nk .i64 (Xk (((p.drop 1).drop 1).take 2)),Nk .i64 (Xk ((((p.drop 1).drop 1).drop 2).take 2)),Nk .i64 (Xk (((((p.drop 1).drop 1).drop 2).drop 2).take 4)),Nk .i64 (Xk ((((((p.drop 1).drop 1).drop 2).drop 2).drop 4).take 6))]++Bc (List.replicate 44 0)) 247):=A;rw[show ∀k:EV->R,Qi 44 1 (.ptr C 5) none none none k=k (.slice C 5 44 44 false)from fun k=>rfl];have B:((((((p.drop 1).drop 1).drop 2).drop 2).drop 4).drop 6).length=44:=by simp only[ak];omega
  have dl:Rd cx.lift W q (0+1+1+2+2+4+6) ((((((p.drop 1).drop 1).drop 2).drop 2).drop 4).drop 6):=d6.chg T (S:=fun _=>False) ⟨fun i _ _=>By _ _,aC _,fun w _ w2 _=>w2,fun y=>Du y⟩ id id;refine Ok.Yh (S:=fun i=>i=W) (by kernel_rfl) (by kernel_rfl) (fun _=>by kernel_rfl) (A6m (K:=K) (n:=44) dl (Du T) (by decide) (by omega)) (fun _ _ p=>p.2.2.1) ?_;rintro bu fe M s' ⟨X,d7,_,bw⟩ U bx bz;have V:=U.hb bw;have X:Bs M bu q (0+1+1+2+2+4+6) (((((((p.drop 1).drop 1).drop 2).drop 2).drop 4).drop 6).take 44):=X.frame (U.get _);have d7:Rd M W q (0+1+1+2+2+4+6+44) (((((((p.drop 1).drop 1).drop 2).drop 2).drop 4).drop 6).drop 44):=by
   obtain⟨s0,g,e,f⟩:=d7.N8;exact⟨⟨s0,by rw[U.get];exact g,e,fun y=>⟨(f y).1,(f y).2.frame (U.get _)⟩⟩,d7.ne⟩
  have u:=m bx T u (by omega);have A:=m bx T A (by omega);have en:=up cG bx;generalize fU:(((((p.drop 1).drop 1).drop 2).drop 2).drop 4).drop 6=body at X d7 B fin F⊢;generalize hq:Xk ((p.drop 1).take 1)=au at fin⊢;generalize Xk (p.take 1)=na at A fin F⊢;generalize Xk (((p.drop 1).drop 1).take 2)=nz at A fin F⊢;generalize Xk ((((p.drop 1).drop 1).drop 2).take 2)=no at A fin F⊢;generalize Xk (((((p.drop 1).drop 1).drop 2).drop 2).take 4)=ne at A fin F⊢;generalize Xk ((((((p.drop 1).drop 1).drop 2).drop 2).drop 4).take 6)=ns at A fin F⊢;have eo:body.take 44=body:=bP (by omega);rw[eo]at X fin F⊢;have er:body.drop 44 = []:=List.drop_eq_nil_of_le (by omega);rw[er]at d7;have hlen:lenOf bu=some 44:=by have:=X.len;rw[B]at this;exact this
  have c0:O1 M.lift 1 44 bu=some (Bc body):=by have:=X.lift.cells;rw[B]at this;exact this
  have et:=A34 (h:=M.lift) (i:=C) (n:=44) (r:=44) (op:=false) (t:=247) (hd:=[Nk .i64 na,Nk .i64 nz,Nk .i64 no,Nk .i64 ne,Nk .i64 ns]) (Cr:=Bc (List.replicate 44 0)) (by rw[By];exact A) hlen (by decide) c0 (by rw[Bi,B]) (by rw[Bi,bT]);have c7:=V _ _ A;refine Ok.Yh (S:=fun i=>i=C) (by rcases bz with rfl|⟨w,rfl,_⟩<;>kernel_rfl) (by rcases bz with rfl|⟨w,rfl,_⟩<;>kernel_rfl) (fun w=>by rcases bz with rfl|⟨w,rfl,_⟩<;>kernel_rfl) (P:=fun v h'=>h'=M.lift.put C (.cells ([Nk .i64 na,Nk .i64 nz,Nk .i64 no,Nk .i64 ne,Nk .i64 ns]++Bc body) 247)) ⟨_,_,et,rfl⟩ (fun _ _ p=>by rw[p];exact(Ar.refl (S:=fun i=>i=C) M.lift).Ak (.inl rfl) (show C<M.lift.next from c7) _) ?_;rintro fV ff b5 s2 rfl c8 aw _;have H:=aw.hb V;have A:b5.get C=some (.cells ([Nk .i64 na,Nk .i64 nz,Nk .i64 no,Nk .i64 ne,Nk .i64 ns]++Bc body) 247):=by rw[c8.get];exact Ae _ _ _
  have u:=D aw V u (by omega);have d7:=E aw V d7;have da:=af en aw;simp only[Ad];have cl:([Nk .i64 na,Nk .i64 nz,Nk .i64 no,Nk .i64 ne,Nk .i64 ns]++Bc body).length=49:=by rw[aF,Bi,B];rfl
  have bad:∀O:Ab,Ext b5 O->¬(au=1/\frB ⟨na,nz,no,ne,ns,body⟩=true)->∀w:EV,Ok (Us K (.ptr (h.next+2) 0) (.ptr C 0) (.bool true) w O) _:=fun O G eu w=>by
   simp only[Us,Aa];rw[Az (l:=Fr.zero.cells) rfl];exact fin Fr.zero 10 O _ (fun _=>rfl) (G.hb H) (da.trans G) (G.at H u) Fr.G7 (by rw[aK eu])
  by_cases hv:au=1
  ·rw[show decide (¬Int.ofNat au=1)=false from aQ (by rw[hv];exact fun y=>y rfl)]
   simp only[Aa];rw[C8 A rfl,Am cl];simp only[G8];refine(Aer (K:=K) ⟨na,nz,no,ne,ns,body⟩).Ap ?_;rintro _ O ⟨rfl,G⟩;generalize frB ⟨na,nz,no,ne,ns,body⟩=fb at fin bad⊢;cases fb with
   | false=>
    simp only[Aa,Ux,Ad];exact bad O G (by simp) _
   | true=>
    have db:=G.hb H;simp only[Aa,Ux,Ad,Bky (d7.ext H G),I];simp only[Us,Aa,aD,aA,Al1];rw[C8 (G.at H A) rfl,Am cl];simp only[G8];have r:=fin ⟨na,nz,no,ne,ns,body⟩ 0 O (fun z=>I9 TT [RV.c (EV.ptr (h.next+2) 0) 247,RV.v (EV.int IntKind.i64 0)] z) (fun _=>rfl) db (da.trans G) (G.at H u) F (by rw[aN ⟨hv,rfl⟩]);simp only[eq_self]at r;exact r
  ·rw[show decide (¬Int.ofNat au=1)=true from aP fun y=>hv (Int.ofNat.inj y)]
   simp only[Aa,Ux,Ad];exact bad b5 (Ar.refl _) (fun y=>hv y.1) _
noncomputable def atF(s:List Nat)(An off:Int):Fr × Int:=
 if ¬(Zv s).2=0 then(Fr.zero,(Zv s).2)else if ¬(Zv s).1.An=An\/¬(Zv s).1.off=off then(Fr.zero,12)else((Zv s).1,0)
theorem A6k{s:List Nat}(H:s.length=64)(hu:∀b∈s,b<256)(hb:HB h)(X:10000<K)(An off:Int):
 Ok (Auu K Wc (.agg (Bc s)) (I An) (I off) h) fun v h'=>v=.tuple [.agg (atF s An off).1.cells,I (atF s An off).2]/\(atF s An off).1.Wf/\Ext h h':=by
 unfold Wc;simp only[Auu,Aa];rw[Fr.Ib];have J:Ext h (((h.new (.cells Ba 119)).new (.cells (Bc s) 30)).new (.cells Fr.zero.cells 247)):=((Ar.new _ _).Di _).Di _;have Q:(((h.new (.cells Ba 119)).new (.cells (Bc s) 30)).new (.cells Fr.zero.cells 247)).get h.next=some (.cells Ba 119):=by
  rw[Ay _ (by show h.next<h.next+1+1;omega),Ay _ (aE _)];exact Ac _ _
 have S:(((h.new (.cells Ba 119)).new (.cells (Bc s) 30)).new (.cells Fr.zero.cells 247)).get (h.next+1)=some (.cells (Bc s) 30):=by
  rw[Ay _ (by show h.next+1<h.next+1+1;omega)];exact Ac _ _
 have d:(((h.new (.cells Ba 119)).new (.cells (Bc s) 30)).new (.cells Fr.zero.cells 247)).get (h.next+2)=some (.cells Fr.zero.cells 247):=Ac _ _;have Y:(((h.new (.cells Ba 119)).new (.cells (Bc s) 30)).new (.cells Fr.zero.cells 247)).next=h.next+3:=rfl
 rw[show(h.new (.cells Ba 119)).next=h.next+1 from rfl,show((h.new (.cells Ba 119)).new (.cells (Bc s) 30)).next=h.next+2 from rfl];generalize ((h.new (.cells Ba 119)).new (.cells (Bc s) 30)).new (.cells Fr.zero.cells 247)=h1 at J Q S d Y⊢;have m:=J.hb hb;have zl:=Fr.Bk Fr.G7;have o:=Bl3 H hu;have fin:∀(f:Fr) (e:Int) (y:Ab) (kk:Ab->R),(∀h',kk h'=I9 TT [.c (.ptr (h.next+2) 0) 247,.v (I e)] h')->HB y->Ext h y->y.get (h.next+2)=some (.cells Fr.zero.cells 247)->f.Wf->(f,e)=atF s An off ->
  Ok (stE 49 (.ptr (h.next+2) 0) (.agg f.cells) y kk) fun v h'=>v=.tuple [.agg (atF s An off).1.cells,I (atF s An off).2]/\(atF s An off).1.Wf/\Ext h h':=by
  intro f e y kk L M Z T wf he;have fl:=Fr.Bk wf;refine Ok.st f.cells T rfl (by show F9 f.cells=49;rw[Bf,fl]) (Bm (by rw[zl];exact fl.symm)) ?_;have g6:(y.put (h.next+2) (.cells f.cells 247)).get (h.next+2)=some (.cells f.cells 247):=Ae _ _ _;rw[L,Fu g6 A1w.1 A1w.2 fl,<-he];exact .ret ⟨rfl,wf,Z.Ak (.inr (by omega)) (M _ _ T) _⟩
 have u64:(Bc s).length=64:=by rw[Bi,H]
 rw[C8 Q rfl,Am Rj];simp only[G8];rw[C8 S rfl,Am u64];simp only[G8];refine(Aw6 (K:=K) H hu m X).Ap ?_;rintro _ h2 ⟨rfl,E⟩;have A:=E.hb m;have d:=E.at m d;have O:=J.trans E;simp only[Aa];have F:Ext h2 (h2.new (.cells Fr.zero.cells 247)):=Ar.new _ _;have j:(h2.new (.cells Fr.zero.cells 247)).get h2.next=some (.cells Fr.zero.cells 247):=Ac _ _
 have d:=F.at A d;have u:=F.hb A;have B:=O.trans F;have n2:h.next+3<=h2.next:=by have:=E.next;omega
 generalize h2.new (.cells Fr.zero.cells 247)=G at F j d u B⊢;generalize h2.next=C at j n2⊢
 have dl:=Fr.Bk o;refine Ok.st (Zv s).1.cells j rfl (by show F9 (Zv s).1.cells=49;rw[Bf,dl]) (Bm (by rw[zl];exact dl.symm)) ?_;have U:=u _ _ j;have j:(G.put C (.cells (Zv s).1.cells 247)).get C=some (.cells (Zv s).1.cells 247):=Ae _ _ _;have d:(G.put C (.cells (Zv s).1.cells 247)).get (h.next+2)=some (.cells Fr.zero.cells 247):=by rw[Af _ (by omega)];exact d
 have D:Ext h (G.put C (.cells (Zv s).1.cells 247)):=B.Ak (.inr (by omega)) U _;have g:=u.put U (.cells (Zv s).1.cells 247);have e0:EV.cells (EV.agg (Zv s).1.cells)=(Zv s).1.cells:=rfl;generalize G.put C (.cells (Zv s).1.cells 247)=h4 at j d D g⊢;unfold atF at fin⊢;generalize (Zv s).2=e at fin⊢;generalize (Zv s).1=f at fin o dl j⊢;simp only[I,Ad];by_cases he:e=0
 ·subst he
  simp only[aD,aA,Aa,Avr,Cy j rfl,aY]at fin⊢;have l1:f.cells[1]? = some (I f.An):=rfl;have l2:f.cells[2]? = some (I f.off):=rfl;rw[l1];simp only[G8,I,Ad];by_cases V:f.An=An
  ·simp only[V,aD,aA,Aa,Cy j rfl,false_or]at fin⊢
   rw[l2];simp only[G8,I,Ad];by_cases W:f.off=off
   ·simp only[W,aD,aA,Aa,Ah8,aY,Awg]at fin⊢
    rw[C8 j rfl,Am dl];exact fin f 0 h4 _ (fun _=>rfl) g D d o rfl
   ·simp only[W,aG,aB,Aa,Ah8,bG]at fin⊢
    rw[Az (l:=Fr.zero.cells) rfl];exact fin Fr.zero 12 h4 _ (fun _=>rfl) g D d Fr.G7 rfl
  ·simp only[V,aG,aB,Aa,true_or,bG,Ah8]at fin⊢
   rw[Az (l:=Fr.zero.cells) rfl];exact fin Fr.zero 12 h4 _ (fun _=>rfl) g D d Fr.G7 rfl
 ·simp only[he,aG,aB,Aa,bG]at fin⊢
  rw[Az (l:=Fr.zero.cells) rfl];exact fin Fr.zero e h4 _ (fun _=>rfl) g D d Fr.G7 rfl
structure En where
 kind:Int
 first:Int
 count:Int
 block:Int
 many:Int
 Br:Int
 bytes:List Nat
def En.cells(e:En):List EV:=[I e.kind,I e.first,I e.count,I e.block,I e.many,I e.Br]++Bc e.bytes
structure En.Wf(e:En):Prop where
 len:e.bytes.length=32
 u8:∀b∈e.bytes,b<256
theorem En.Bk {e:En}(w:e.Wf):e.cells.length=38:=by
 unfold En.cells;rw[aF,Bi,w.len];rfl
theorem Bkh(a b:Nat):Aiy (Nk .u8 a) (Nk .u8 b)=some (decide (a=b)):=by
 show Bb (Nat.beq (Qb .u8) (Qb .u8)) (some (eqB (Int.ofNat a) (Int.ofNat b))) none=_;rw[cI,Al,Aip];exact congrArg some (eK.2 ⟨Int.ofNat.inj,congrArg _⟩)
theorem Au2:∀(a b:List Nat),a.length=b.length->Fv (Bc a) (Bc b)=some (decide (a=b))
 | [],[],_=>rfl
 | x::a,y::b,h=>by
  have g:=Au2 a b (by simpa using h);show(match Aiy (Nk .u8 x) (Nk .u8 y)with|some true=>Fv (Bc a) (Bc b)|some false=>(match Fv (Bc a) (Bc b)with|some _=>some false|none=>none)|none=>none)=_;rw[Bkh,g];by_cases d:x=y
  ·rw[aP d]
   subst d;simp
  ·rw[aQ d]
   simp[d]
theorem Avh:∀(a:List Nat),shaped (List.replicate a.length 0) (Bc a)=true
 | []=>rfl
 | x::a=>by
  show Bb (Nat.beq 0 0) (shaped (List.replicate a.length 0) (Bc a)) false=true;rw[Avh a];rfl
theorem Be1(d:TT.eqs t=some (List.replicate n 0)){a b:List Nat}(g:a.length=n)(hb:b.length=n)(k:EV->R):Kv Ala (bin TT .eql t) (.agg (Bc a)) (.agg (Bc b)) k=k (.bool (decide (a=b))):=by
 have e:bin TT .eql t (.agg (Bc a)) (.agg (Bc b))=some (.bool (decide (a=b))):=by
  show(match Ave TT t (.agg (Bc a)) (.agg (Bc b))with|some b=>some (EV.bool b)|none=>none)=_;have:Ave TT t (.agg (Bc a)) (.agg (Bc b))=some (decide (a=b)):=by
   show(match TT.eqs t with|some sh=>Bb (shaped sh (Bc a)) (Fv (Bc a) (Bc b)) none|none=>none)=_;rw[d];simp only;rw[show List.replicate n 0=List.replicate a.length 0 by rw[g],Avh,Al,Au2 a b (by omega)]
  rw[this]
 show oB k (bin TT .eql t (.agg (Bc a)) (.agg (Bc b)))=_;rw[e];rfl
theorem Bf2(d:TT.eqs t=some (List.replicate n 0)){a b:List Nat}(g:a.length=n)(hb:b.length=n)(k:EV->R):Kv Ake (bin TT .neq t) (.agg (Bc a)) (.agg (Bc b)) k=k (.bool (decide (¬a=b))):=by
 have e:bin TT .neq t (.agg (Bc a)) (.agg (Bc b))=some (.bool (decide (¬a=b))):=by
  show(match Ave TT t (.agg (Bc a)) (.agg (Bc b))with|some b=>some (EV.bool (Bb b false true))|none=>none)=_;have:Ave TT t (.agg (Bc a)) (.agg (Bc b))=some (decide (a=b)):=by
   show(match TT.eqs t with|some sh=>Bb (shaped sh (Bc a)) (Fv (Bc a) (Bc b)) none|none=>none)=_;rw[d];simp only;rw[show List.replicate n 0=List.replicate a.length 0 by rw[g],Avh,Al,Au2 a b (by omega)]
  rw[this];by_cases h:a=b
  ·simp[h,Bb]
  ·simp[h,Bb]
 show oB k (bin TT .neq t (.agg (Bc a)) (.agg (Bc b)))=_;rw[e];rfl
theorem Bpw:TT.eqs 85=some (List.replicate 32 0):=by kernel_rfl
theorem Bnr:TT.eqs 245=some (List.replicate 44 0):=by kernel_rfl
theorem Qg(n a b:Int)(h:Ab):Pf K (.int .i64 n) (.int .i64 a) (.int .i64 b) h=some (.bool (wi n a b),h):=by
 simp only[Pf,Ad,Aa];by_cases d:a<=n
 ·simp only[d,aB,Aa,Ad,Abz,wi,aZ]
 ·simp only[d,aA,Aa,Abz,wi,aX]
def C7:List Nat:=List.replicate 32 0
def Axn(e:En):Bool:=
 if e.kind=1 then wi e.count 1 4&&decide (e.many=0)else
 if e.kind=2 then(decide (e.count=1)&&wi e.many 1 (256-e.block))&&decide (e.bytes=C7)else
 if e.kind=3 then decide (e.count=1)&&decide (e.many=0)else false
theorem Gv:List.replicate 32 (EV.int .u8 0)=Bc C7:=by kernel_rfl
theorem Awz{e:En}(w:e.Wf)(j:wi e.block 0 255=true):Ok (Pj K (.agg e.cells) h) fun v h'=>v=.bool (Axn e)/\Ext h h':=by
 obtain⟨b0,b1⟩:=N2.1 j;simp only[Pj,Aa];have d:Ext h (h.new (.cells e.cells 203)):=Ar.new _ _;have g:(h.new (.cells e.cells 203)).get h.next=some (.cells e.cells 203):=Ac _ _
 generalize h.new (.cells e.cells 203)=D at d g⊢;have l0:e.cells[0]? = some (I e.kind):=rfl;have m:e.cells[2]? = some (I e.count):=rfl;have B:e.cells[3]? = some (I e.block):=rfl;have o:e.cells[4]? = some (I e.many):=rfl;have C:Mh e.cells 6 32=some (Bc e.bytes):=by
  rw[Fc (by rw[En.Bk w];decide)];show some (List.take 32 (Bc e.bytes))=_;rw[bP (by rw[Bi,w.len];decide)]
 simp only[Cy g rfl,Aa,l0,I,Ad];unfold Axn;by_cases u:e.kind=1
 ·simp only[u,aB,Aa,Cy g rfl,m,I,Qg,Ad,bG]
  cases wi e.count 1 4 with
  | false=>simp only[Aa,Qz,Ad];exact .ret ⟨rfl,d⟩
  | true=>
   simp only[Aa,Cy g rfl,o,I,Ad,Qz,aZ];exact .ret ⟨rfl,d⟩
 ·simp only[u,aA,Aa,aY,Ad]
  by_cases y:e.kind=2
  ·simp only[y,aB,Aa,Cy g rfl,m,I,Ad,bG]
   by_cases c1:e.count=1
   ·simp only[c1,aB,Aa,Cy g rfl,o,B,I,Ad,aZ]
    rw[Cn (by omega) (by omega),Qg];simp only[Aa,Qu];cases wi e.many 1 (256-e.block)with
    | false=>simp only[Aa,Mb,Ad,aX];exact .ret ⟨rfl,d⟩
    | true=>
     simp only[Aa,Ad,C8 g rfl,C];rw[Az (l:=Bc C7) (by rw[Gv];rfl),Be1 Bpw w.len (by rfl)];simp only[Mb,Aa,aZ];exact .ret ⟨rfl,d⟩
   ·simp only[c1,aA,Aa,Ad,Qu,Mb,aX]
    exact .ret ⟨rfl,d⟩
  ·simp only[y,aA,Aa,aY,Ad]
   by_cases A:e.kind=3
   ·simp only[A,aB,Aa,Cy g rfl,m,I,Ad,bG]
    by_cases c1:e.count=1
    ·simp only[c1,aB,Aa,Cy g rfl,o,I,Ad,Qq,aZ]
     exact .ret ⟨rfl,d⟩
    ·simp only[c1,aA,Aa,Ad,Qq,aX]
     exact .ret ⟨rfl,d⟩
   ·simp only[A,aA,Aa,aY,Yv]
    exact .ret ⟨rfl,d⟩
def erB(e:En):Bool:=wi e.first 0 281474976710655&&(wi e.block 0 255&&(wi e.Br 0 65535&&Axn e))
theorem Ayc{e:En}(w:e.Wf):Ok (Q8 K (.agg e.cells) h) fun v h'=>v=.bool (erB e)/\Ext h h':=by
 simp only[Q8,Aa];have d:Ext h (h.new (.cells e.cells 203)):=Ar.new _ _;have g:(h.new (.cells e.cells 203)).get h.next=some (.cells e.cells 203):=Ac _ _
 generalize h.new (.cells e.cells 203)=y at d g⊢;have l1:e.cells[1]? = some (I e.first):=rfl;have m:e.cells[3]? = some (I e.block):=rfl;have o:e.cells[5]? = some (I e.Br):=rfl;simp only[Cy g rfl,Aa,l1,I,Qg,Ad];unfold erB;cases wi e.first 0 281474976710655 with
 | false=>simp only[Aa,Ad,Sr,Ms,J0];exact .ret ⟨rfl,d⟩
 | true=>
 simp only[Aa,Ad,Cy g rfl,m,I,Qg,Sr,aZ];cases j:wi e.block 0 255 with
 | false=>simp only[Aa,Ad,Ms,J0];exact .ret ⟨rfl,d⟩
 | true=>
 simp only[Aa,Ad,Cy g rfl,o,I,Qg,Ms,aZ];cases wi e.Br 0 65535 with
 | false=>simp only[Aa,Ad,J0];exact .ret ⟨rfl,d⟩
 | true=>
 simp only[Aa,Ad,aZ];rw[C8 g rfl,Am (En.Bk w)];simp only[G8];refine(Awz (K:=K) w j).Ap ?_;rintro _ h2 ⟨rfl,u⟩;simp only[J0,Aa];exact .ret ⟨rfl,d.trans u⟩
variable {e:En}
def Wi(e:En):List Nat:=Uh 6 e.first.toNat++Uh 1 e.count.toNat++Uh 1 e.block.toNat++Uh 2 e.many.toNat++Uh 2 e.Br.toNat++e.bytes
def Vc:List Nat:=List.replicate 44 0
theorem Asb:List.replicate 44 (EV.int .u8 0)=Bc Vc:=by kernel_rfl
def D9(e:En):List Nat × Int:=if erB e=true then(Wi e,0)else(Vc,10)
theorem A1y(w:e.Wf):(Wi e).length=44:=by
 unfold Wi;simp only[aF,H7,w.len]
theorem Bkc(w:e.Wf):∀b∈Wi e,b<256:=fun b hb=>by
 unfold Wi at hb;simp only[bL]at hb;rcases hb with((((hb|hb)|hb)|hb)|hb)|hb
 ·exact Za _ _ b hb
 ·exact Za _ _ b hb
 ·exact Za _ _ b hb
 ·exact Za _ _ b hb
 ·exact Za _ _ b hb
 ·exact w.u8 b hb
theorem Aj2(w:e.Wf):(D9 e).1.length=44:=by
 unfold D9;split
 ·exact A1y w
 ·rfl
theorem A7w(w:e.Wf):∀b∈(D9 e).1,b<256:=by
 unfold D9;split
 ·exact Bkc w
 ·intro b hb;rw[bZ hb];decide
theorem A0y:TT.size 245=some 44/\TT.agg 245=some true:=⟨by kernel_rfl,by kernel_rfl⟩
theorem Baq(g:erB e=true):(0<=e.first/\e.first<=281474976710655)/\(0<=e.block/\e.block<=255)/\(0<=e.Br/\e.Br<=65535)/\(1<=e.count/\e.count<=4)/\(0<=e.many/\e.many<=256)/\(1<=e.kind/\e.kind<=3):=by
 unfold erB at g;simp only[bI]at g;obtain⟨j,m,o,d⟩:=g;have a:=N2.1 j;have b:=N2.1 m;have c:=N2.1 o;refine⟨a,b,c,?_⟩;unfold Axn at d;split at d
 ·simp only[bI,bE]at d
  have:=N2.1 d.1;omega
 ·split at d
  ·simp only[bI,bE]at d
   have:=N2.1 d.1.2;omega
  ·split at d
   ·simp only[bI,bE]at d
    omega
   ·cases d
theorem Aqm(w:e.Wf)(hb:HB h)(hK:10000<K):
 Ok (Ov K (.agg e.cells) h) fun v h'=>v=.tuple [.agg (Bc (D9 e).1),I (D9 e).2]/\Ext h h':=by
 have l1:e.cells[1]? = some (I e.first):=rfl;have l2:e.cells[2]? = some (I e.count):=rfl;have l3:e.cells[3]? = some (I e.block):=rfl;have l4:e.cells[4]? = some (I e.many):=rfl;have l5:e.cells[5]? = some (I e.Br):=rfl;have Y:=En.Bk w;simp only[Ov,Aa];rw[Asb];have x1:Ext h (((h.new (.cells e.cells 203)).new (.cells (Bc Vc) 245)).new (.cells (Bc Vc) 245)):=((Ar.new _ _).Di _).Di _;have u:(((h.new (.cells e.cells 203)).new (.cells (Bc Vc) 245)).new (.cells (Bc Vc) 245)).get h.next=some (.cells e.cells 203):=by
  rw[Ay _ (by show h.next<h.next+1+1;omega),Ay _ (aE _)];exact Ac _ _
 have m:(((h.new (.cells e.cells 203)).new (.cells (Bc Vc) 245)).new (.cells (Bc Vc) 245)).get (h.next+1)=some (.cells (Bc Vc) 245):=by
  rw[Ay _ (by show h.next+1<h.next+1+1;omega)];exact Ac _ _
 have d:(((h.new (.cells e.cells 203)).new (.cells (Bc Vc) 245)).new (.cells (Bc Vc) 245)).get (h.next+2)=some (.cells (Bc Vc) 245):=Ac _ _;have n1:(((h.new (.cells e.cells 203)).new (.cells (Bc Vc) 245)).new (.cells (Bc Vc) 245)).next=h.next+3:=rfl
 rw[show(h.new (.cells e.cells 203)).next=h.next+1 from rfl,show((h.new (.cells e.cells 203)).new (.cells (Bc Vc) 245)).next=h.next+2 from rfl];generalize ((h.new (.cells e.cells 203)).new (.cells (Bc Vc) 245)).new (.cells (Bc Vc) 245)=h1 at x1 u m d n1⊢;have H:=x1.hb hb;have zl:(Bc Vc).length=44:=by rw[Bi];rfl
 have fin:∀(l:List Nat) (er:Int) (S:Ab) (kk:Ab->R),(∀h',kk h'=I9 TT [.c (.ptr (h.next+1) 0) 245,.v (I er)] h')->HB S->Ext h S->S.get (h.next+1)=some (.cells (Bc Vc) 245)->l.length=44->(l,er)=D9 e ->
  Ok (stE 44 (.ptr (h.next+1) 0) (.agg (Bc l)) S kk) fun v h'=>v=.tuple [.agg (Bc (D9 e).1),I (D9 e).2]/\Ext h h':=by
  intro l er S kk al B x5 g5 hl he;have fl:(Bc l).length=44:=by rw[Bi,hl]
  refine Ok.st (Bc l) g5 rfl (by show F9 (Bc l)=44;rw[Bf,fl]) (Bm (by rw[zl];exact fl.symm)) ?_;have g6:(S.put (h.next+1) (.cells (Bc l) 245)).get (h.next+1)=some (.cells (Bc l) 245):=Ae _ _ _;rw[al,Fu g6 A0y.1 A0y.2 fl,<-he];exact .ret ⟨rfl,x5.Ak (.inr (by omega)) (B _ _ g5) _⟩
 rw[C8 u rfl,Am Y];simp only[G8];refine(Ayc (K:=K) w).Ap ?_;rintro _ h2 ⟨rfl,V⟩;have D:=V.hb H;have Z:=x1.trans V;have u:=V.at H u;have m:=V.at H m;have d:=V.at H d;have n2:h.next+3<=h2.next:=by have:=V.next;omega
 unfold D9 at fin⊢;cases hr:erB e with
 | false=>
  rw[hr]at fin;simp only[Aa,aU,aY]at fin⊢;rw[C8 d rfl,Am zl];simp only[G8];exact fin Vc 10 h2 _ (fun _=>rfl) D Z m rfl rfl
 | true=>
 rw[hr]at fin;simp only[Aa,bG,Acr]at fin⊢;obtain⟨⟨a1,b1⟩,⟨a2,b2⟩,⟨a3,b3⟩,⟨a4,b4⟩,⟨a5,b5⟩,_⟩:=Baq hr;have p0:A0e (h2.new (.cells [.Ao,.bool false] 350)) h2.next 350 [] false:=⟨.Ao,0,Ac _ _,.nil _ _ _ _,fun y=>absurd y (bS _)⟩
 have W:Ext h2 (h2.new (.cells [.Ao,.bool false] 350)):=Ar.new _ _;have u:=W.at D u;have m:=W.at D m;have d:=W.at D d;have E:=W.hb D;have aa:=Z.trans W;generalize h2.new (.cells [.Ao,.bool false] 350)=h3 at p0 W u m d E aa⊢;generalize hP:h2.next=P at p0 n2⊢
 have up:∀{X hc:Ab},Ext h X->Ar (fun i=>P<=i) X hc->Ext h hc:=fun x c=>x.then c fun j hj hl=>by
  have hj:P<=j:=hj;omega
 have A:∀{X hc:Ab} {i:Nat} {o:Dz},Ar (fun i=>P<=i) X hc->HB X->X.get i=some o->i<P->hc.get i=some o:=fun c hb g hi=>c.at hb g (by omega)
 rw[Cy u rfl,l1];simp only[G8];refine(Lo (K:=K) (w:=6) (by omega) p0 E (by simp) (by decide) (by decide) (v:=e.first) (by omega)).Ap ?_;rintro _ S ⟨p,c,B⟩;rw[X5 (b:=281474976710655) a1 b1 (by decide),aN rfl]at p;have x5:=up aa c;have u:=A c E u (by omega);have m:=A c E m (by omega);have d:=A c E d (by omega);rw[Cy u rfl,l2];simp only[G8];refine(Lo (K:=K) (w:=1) (by omega) p B (by simp[H7]) (by decide) (by decide) (v:=e.count) (by omega)).Ap ?_;rintro _ h6 ⟨p,c,J⟩;rw[X5 (b:=4) (by omega) b4 (by decide),aN rfl]at p;have x6:=up x5 c;have u:=A c B u (by omega);have m:=A c B m (by omega);have d:=A c B d (by omega);rw[Cy u rfl,l3];simp only[G8];refine(Lo (K:=K) (w:=1) (by omega) p J (by simp[H7]) (by decide) (by decide) (v:=e.block) (by omega)).Ap ?_;rintro _ h7 ⟨p,c,L⟩;rw[X5 (b:=255) a2 b2 (by decide),aN rfl]at p;have x7:=up x6 c;have u:=A c J u (by omega);have m:=A c J m (by omega);have d:=A c J d (by omega);rw[Cy u rfl,l4];simp only[G8];refine(Lo (K:=K) (w:=2) (by omega) p L (by simp[H7]) (by decide) (by decide) (v:=e.many) (by omega)).Ap ?_;rintro _ h8 ⟨p,c,M⟩;rw[X5 (b:=256) a5 b5 (by decide),aN rfl]at p;have x8:=up x7 c;have u:=A c L u (by omega);have m:=A c L m (by omega);have d:=A c L d (by omega);rw[Cy u rfl,l5];simp only[G8];refine(Lo (K:=K) (w:=2) (by omega) p M (by simp[H7]) (by decide) (by decide) (v:=e.Br) (by omega)).Ap ?_;rintro _ h9 ⟨p,c,T⟩;rw[X5 (b:=65535) a3 b3 (by decide),aN rfl]at p;have x9:=up x8 c;have u:=A c M u (by omega);have m:=A c M m (by omega);have d:=A c M d (by omega)
 try simp only[Aa]
 rw[show ∀k:EV->R,Qi 32 1 (.ptr h.next 6) none none none k=k (.slice h.next 6 32 32 false)from fun k=>rfl];have au:O1 h9 1 32 (.slice h.next 6 32 32 false)=some (Bc e.bytes):=by
  show Xo h9 h.next 6 32=_
  unfold Xo As0;rw[u];show Mh e.cells 6 32=_;rw[Fc (by rw[Y];decide)];show some (List.take 32 (Bc e.bytes))=_;rw[bP (by rw[Bi,w.len];decide)]
 refine(Ats (K:=K) (n:=32) p T (by simp[H7]) rfl (by decide) (by decide) au w.len).Ap ?_;rintro _ bz ⟨p,c,F⟩;have aw:=up x9 c;have m:=A c T m (by omega);have d:=A c T d (by omega);have ep:([]++Uh 6 e.first.toNat++Uh 1 e.count.toNat++Uh 1 e.block.toNat++Uh 2 e.many.toNat++Uh 2 e.Br.toNat++e.bytes)=Wi e:=by
  unfold Wi;rw[dJ]
 have ad:∀b:Bool,(b||!true)=b:=by decide
 rw[ep]at p;simp only[ad]at p;have C:=A1y w;refine(Ayu (K:=K) p F (by rw[C];decide)).Ap ?_;rintro _ U ⟨y,q',rfl,ry,G,O,lq⟩;have m:=G.at F m;have d:=G.at F d;have ae:=aw.trans G;simp only[Aa];rw[show ∀k:EV->R,Qi 44 1 (.ptr (h.next+2) 0) none none none k=k (.slice (h.next+2) 0 44 44 false)from fun k=>rfl];have af:=ry.bs (by rw[C];decide);have hlen:=af.len;have Q:=af.cells;rw[C]at hlen Q;have ag:=A34 (h:=U) (i:=h.next+2) (n:=44) (r:=44) (op:=false) (t:=245) (hd:=[]) (Cr:=Bc Vc) d hlen (by decide) Q (by rw[Bi,C]) zl;rw[show([]:List EV).length=0 from rfl,dJ]at ag;rw[ag,Au];have ah:=O _ _ d;have d:(U.put (h.next+2) (.cells (Bc (Wi e)) 245)).get (h.next+2)=some (.cells (Bc (Wi e)) 245):=Ae _ _ _;have m:(U.put (h.next+2) (.cells (Bc (Wi e)) 245)).get (h.next+1)=some (.cells (Bc Vc) 245):=by rw[Af _ (by omega)];exact m
 rw[C8 d rfl,Am (by rw[Bi,C])];simp only[G8];exact fin (Wi e) 0 _ _ (fun _=>rfl) (O.put ah _) (ae.Ak (.inr (by omega)) ah _) m C rfl
theorem Baf(a b c d e:Int){l:List EV}(g:l.length=44):Aaq (D5 [(0,1),(1,1),(2,1),(3,1),(4,1),(5,44)]) [(0,I a),(1,I b),(2,I c),(3,I d),(4,I e),(5,.agg l)] Fr.zero.cells=some ([I a,I b,I c,I d,I e]++l):=by
 have hs:=Aje [I a,I b,I c,I d,I e] (Bc (List.replicate 44 0)) l (by rw[Bi,bT,g]);rw[<-Ui]at hs;show Bb (Nat.beq (F9 l) 44) (oB (fun z=>some z) (Mf ([I a,I b,I c,I d,I e]++Bc (List.replicate 44 0)) 5 l)) none=_;rw[Bf,g,cI,Al];rw[show(5:Nat) = [I a,I b,I c,I d,I e].length from rfl,hs];rfl
def J3(e:En)(An off Av seq:Int):Fr × Int:=
 if erB e=true/\frB ⟨e.kind,An,off,Av,seq,(D9 e).1⟩=true/\e.first<=seq/\seq-e.count<e.first then(⟨e.kind,An,off,Av,seq,(D9 e).1⟩,0)else(Fr.zero,10)
theorem A1e(w:e.Wf)(An off Av seq:Int):(J3 e An off Av seq).1.Wf:=by
 unfold J3;split
 ·exact⟨Aj2 w,A7w w⟩
 ·exact Fr.G7
theorem Aft(w:e.Wf)(hb:HB h)(hK:10000<K)(An off Av seq:Int):
 Ok (Kc K (.agg e.cells) (I An) (I off) (I Av) (I seq) h) fun v h'=>v=.tuple [.agg (J3 e An off Av seq).1.cells,I (J3 e An off Av seq).2]/\Ext h h':=by
 have l0:e.cells[0]? = some (I e.kind):=rfl;have l1:e.cells[1]? = some (I e.first):=rfl;have l2:e.cells[2]? = some (I e.count):=rfl;have ab:=En.Bk w;have zl:=Fr.Bk Fr.G7;have F:(⟨e.kind,An,off,Av,seq,(D9 e).1⟩:Fr).Wf:=⟨Aj2 w,A7w w⟩;have fl:=Fr.Bk F;simp only[Kc,Aa];rw[Fr.Ib];have x1:Ext h ((h.new (.cells e.cells 203)).new (.cells Fr.zero.cells 247)):=(Ar.new _ _).Di _;have g:((h.new (.cells e.cells 203)).new (.cells Fr.zero.cells 247)).get h.next=some (.cells e.cells 203):=by
  rw[Ay _ (aE _)];exact Ac _ _
 have d:((h.new (.cells e.cells 203)).new (.cells Fr.zero.cells 247)).get (h.next+1)=some (.cells Fr.zero.cells 247):=Ac _ _;have n1:((h.new (.cells e.cells 203)).new (.cells Fr.zero.cells 247)).next=h.next+2:=rfl
 rw[show(h.new (.cells e.cells 203)).next=h.next+1 from rfl];generalize (h.new (.cells e.cells 203)).new (.cells Fr.zero.cells 247)=h1 at x1 g d n1⊢;have C:=x1.hb hb;have fin:∀(f:Fr) (er:Int) (u:Ab) (kk:Ab->R),(∀h',kk h'=I9 TT [.c (.ptr (h.next+1) 0) 247,.v (I er)] h')->HB u->Ext h u->u.get (h.next+1)=some (.cells Fr.zero.cells 247)->f.Wf->(f,er)=J3 e An off Av seq ->
  Ok (stE 49 (.ptr (h.next+1) 0) (.agg f.cells) u kk) fun v h'=>v=.tuple [.agg (J3 e An off Av seq).1.cells,I (J3 e An off Av seq).2]/\Ext h h':=by
  intro f er u kk af A G g wf he;have fl:=Fr.Bk wf;refine Ok.st f.cells g rfl (by show F9 f.cells=49;rw[Bf,fl]) (Bm (by rw[zl];exact fl.symm)) ?_;have g6:(u.put (h.next+1) (.cells f.cells 247)).get (h.next+1)=some (.cells f.cells 247):=Ae _ _ _;rw[af,Fu g6 A1w.1 A1w.2 fl,<-he];exact .ret ⟨rfl,G.Ak (.inr (by omega)) (A _ _ g) _⟩
 rw[C8 g rfl,Am ab];simp only[G8];refine(Aqm (K:=K) w C hK).Ap ?_;rintro _ h2 ⟨rfl,O⟩;have H:=O.hb C;have ag:=x1.trans O;have g:=O.at C g;have d:=O.at C d;have n2:h.next+2<=h2.next:=by have:=O.next;omega
 simp only[Aa];rw[Asb];have S:Ext h2 (h2.new (.cells (Bc Vc) 245)):=Ar.new _ _;have m:(h2.new (.cells (Bc Vc) 245)).get h2.next=some (.cells (Bc Vc) 245):=Ac _ _
 have g:=S.at H g;have d:=S.at H d;have J:=S.hb H;have T:=ag.trans S;have n3:(h2.new (.cells (Bc Vc) 245)).next=h2.next+1:=rfl
 generalize h2.new (.cells (Bc Vc) 245)=M at S m g d J T n3⊢;generalize h2.next=P at m n2 n3⊢
 have bl:(Bc (D9 e).1).length=44:=by rw[Bi,Aj2 w]
 refine Ok.st (Bc (D9 e).1) m rfl (by show F9 (Bc (D9 e).1)=44;rw[Bf,bl]) (Bm (by rw[Bi];exact bl.symm)) ?_;have U:=J _ _ m;have m:(M.put P (.cells (Bc (D9 e).1) 245)).get P=some (.cells (Bc (D9 e).1) 245):=Ae _ _ _;have g:(M.put P (.cells (Bc (D9 e).1) 245)).get h.next=some (.cells e.cells 203):=by rw[Af _ (by omega)];exact g
 have d:(M.put P (.cells (Bc (D9 e).1) 245)).get (h.next+1)=some (.cells Fr.zero.cells 247):=by rw[Af _ (by omega)];exact d
 have x4:Ext h (M.put P (.cells (Bc (D9 e).1) 245)):=T.Ak (.inr (by omega)) U _;have D:=J.put U (.cells (Bc (D9 e).1) 245);have n4:(M.put P (.cells (Bc (D9 e).1) 245)).next=P+1:=n3
 generalize M.put P (.cells (Bc (D9 e).1) 245)=h4 at m g d x4 D n4⊢
 try simp only[Aa]
 rw[Cy g rfl,l0];simp only[G8];rw[C8 m rfl,Am bl];simp only[G8]
 try rw[Fr.Ib]
 rw[Az (Baf e.kind An off Av seq bl)]
 try simp only[Aa]
 have G:Ext h4 (h4.new (.cells Fr.zero.cells 247)):=Ar.new _ _;have j:(h4.new (.cells Fr.zero.cells 247)).get h4.next=some (.cells Fr.zero.cells 247):=Ac _ _
 have g:=G.at D g;have d:=G.at D d;have A:=G.hb D;have V:=x4.trans G;generalize h4.new (.cells Fr.zero.cells 247)=u at G j g d A V⊢;generalize h4.next=Q at j n4⊢
 refine Ok.st (⟨e.kind,An,off,Av,seq,(D9 e).1⟩:Fr).cells j rfl (by show F9 (⟨e.kind,An,off,Av,seq,(D9 e).1⟩:Fr).cells=49;rw[Bf,fl]) (Bm (by rw[zl];exact fl.symm)) ?_;have W:=A _ _ j;have j:(u.put Q (.cells (⟨e.kind,An,off,Av,seq,(D9 e).1⟩:Fr).cells 247)).get Q=some (.cells (⟨e.kind,An,off,Av,seq,(D9 e).1⟩:Fr).cells 247):=Ae _ _ _;have g:(u.put Q (.cells (⟨e.kind,An,off,Av,seq,(D9 e).1⟩:Fr).cells 247)).get h.next=some (.cells e.cells 203):=by rw[Af _ (by omega)];exact g
 have d:(u.put Q (.cells (⟨e.kind,An,off,Av,seq,(D9 e).1⟩:Fr).cells 247)).get (h.next+1)=some (.cells Fr.zero.cells 247):=by rw[Af _ (by omega)];exact d
 have x6:Ext h (u.put Q (.cells (⟨e.kind,An,off,Av,seq,(D9 e).1⟩:Fr).cells 247)):=V.Ak (.inr (by omega)) W _;have o:=A.put W (.cells (⟨e.kind,An,off,Av,seq,(D9 e).1⟩:Fr).cells 247);generalize u.put Q (.cells (⟨e.kind,An,off,Av,seq,(D9 e).1⟩:Fr).cells 247)=h6 at j g d x6 o⊢;have ai:(D9 e).2=if erB e=true then 0 else 10:=by unfold D9;split<;>rfl
 rw[ai];unfold J3 at fin⊢;generalize aj:(⟨e.kind,An,off,Av,seq,(D9 e).1⟩:Fr)=f at fin F fl j⊢;have no:∀E:Ab,Ext h6 E->¬(erB e=true/\frB f=true/\e.first<=seq/\seq-e.count<e.first)->Ok (Bu (D5 [(0,1),(1,1),(2,1),(3,1),(4,1),(5,44)]) Fr.zero.cells [] fun al=>stE 49 (.ptr (h.next+1) 0) al E fun z=>I9 TT [.c (.ptr (h.next+1) 0) 247,.v (.int .i64 10)] z) _:=fun E B ao=>by
  rw[Az (l:=Fr.zero.cells) rfl];exact fin Fr.zero 10 E _ (fun _=>rfl) (B.hb o) (x6.trans B) (B.at o d) Fr.G7 (by rw[aK ao])
 simp only[I,Ad];by_cases X:erB e=true
 ·rw[aN X]
  simp only[aD,aA,Aa];rw[C8 j rfl,Am fl];simp only[G8];refine(Aer (K:=K) f).Ap ?_;rintro _ E ⟨rfl,B⟩;have g:=B.at o g;cases hf:frB f with
  | false=>
   simp only[Aa,Ad,Nq,J2,Hr];have r:=no E B (by rw[hf];simp);rw[hf]at r;exact r
  | true=>
   have L:=hf;rw[<-aj]at L;simp only[frB,bI]at L;have a2:=N2.1 L.2.2.2.2;have a6:=(Baq X).2.2.2.1;have rr:=no E B;have rf:=fin f 0 E (fun z=>I9 TT [RV.c (EV.ptr (h.next+1) 0) 247,RV.v (EV.int IntKind.i64 0)] z) (fun _=>rfl) (B.hb o) (x6.trans B) (B.at o d) F;rw[hf]at rr rf;simp only[eq_self]at rr rf;simp only[Aa,Ad,Nq];rw[Cy g rfl,l1];simp only[G8,I,Ad];by_cases Y:seq<e.first
   ·rw[show decide (seq<e.first)=true from aP Y]
    simp only[Aa,Ad,J2,Hr];exact rr fun y=>by omega
   ·rw[show decide (seq<e.first)=false from aQ Y]
    simp only[Aa,Ad,J2];rw[Cy g rfl,l1];simp only[G8];rw[Cy g rfl,l2];simp only[G8,I,Ad];rw[Cn (by omega) (by omega)];by_cases Z:e.first<=seq-e.count
    ·rw[show decide (e.first<=seq-e.count)=true from aP Z]
     simp only[Aa,Ad,Hr];exact rr fun y=>by omega
    ·rw[show decide (e.first<=seq-e.count)=false from aQ Z]
     simp only[Aa,Ad,Hr,Abc];rw[C8 (B.at o j) rfl,Am fl];exact rf (by rw[aN ⟨X,trivial,by omega,by omega⟩])
 ·rw[aK X]
  simp only[show ¬((10:Int)=0) by decide,aG,aB,Aa,Ad,Nq,J2,Hr];exact no h6 (Ar.refl _) fun y=>X y.1
def En.zero:En:=⟨0,0,0,0,0,0,C7⟩
theorem En.Ib:List.replicate 6 (EV.int .i64 0)++List.replicate 32 (EV.int .u8 0)=En.zero.cells:=by kernel_rfl
theorem En.G7:En.zero.Wf:=⟨rfl,fun b hb=>by rw[bZ hb];decide⟩
theorem Bck:TT.size 203=some 38/\TT.agg 203=some true:=⟨by kernel_rfl,by kernel_rfl⟩
def Z0(kind:Int)(p:List Nat):En:=⟨kind,Xk (p.take 6),Xk ((p.drop 6).take 1),Xk (((p.drop 6).drop 1).take 1),Xk ((((p.drop 6).drop 1).drop 1).take 2),Xk (((((p.drop 6).drop 1).drop 1).drop 2).take 2),((((((p.drop 6).drop 1).drop 1).drop 2).drop 2).take 32)⟩
theorem Axz(d:p.length=44)(hu:∀b∈p,b<256):(Z0 kind p).Wf:=by
 refine⟨?_,fun b hb=>hu b ?_⟩
 ·simp only[Z0,bJ,ak,d];decide
 ·simp only[Z0]at hb
  exact aM (aM (aM (aM (aM (bO hb)))))
def ofF(kind:Int)(p:List Nat):En × Int:=
 if(D9 (Z0 kind p)).2=0/\(D9 (Z0 kind p)).1=p then(Z0 kind p,0)else(En.zero,10)
theorem Bgi(d:p.length=44)(hu:∀b∈p,b<256):(ofF kind p).1.Wf:=by
 unfold ofF;split
 ·exact Axz d hu
 ·exact En.G7
theorem A8l(k:Int)(a b c d e:Nat):Aaq (D5 [(0,1),(1,1),(2,1),(3,1),(4,1),(5,1),(6,32)]) [(0,I k),(1,Nk .i64 a),(2,Nk .i64 b),(3,Nk .i64 c),(4,Nk .i64 d),(5,Nk .i64 e)] En.zero.cells=some ([I k,Nk .i64 a,Nk .i64 b,Nk .i64 c,Nk .i64 d,Nk .i64 e]++Bc C7):=rfl
theorem A63(hp:p.length=44)(hu:∀b∈p,b<256)(hb:HB h)(hK:10000<K)(kind:Int):
 Ok (Asx K (I kind) (.agg (Bc p)) h) fun v h'=>v=.tuple [.agg (ofF kind p).1.cells,I (ofF kind p).2]/\Ext h h':=by
 have zl:=En.Bk En.G7;have ul:(Bc p).length=44:=by rw[Bi,hp]
 simp only[Asx,Aa];rw[En.Ib];have x1:Ext h ((h.new (.cells (Bc p) 245)).new (.cells En.zero.cells 203)):=(Ar.new _ _).Di _;have m:((h.new (.cells (Bc p) 245)).new (.cells En.zero.cells 203)).get h.next=some (.cells (Bc p) 245):=by
  rw[Ay _ (aE _)];exact Ac _ _
 have u:((h.new (.cells (Bc p) 245)).new (.cells En.zero.cells 203)).get (h.next+1)=some (.cells En.zero.cells 203):=Ac _ _;have n1:((h.new (.cells (Bc p) 245)).new (.cells En.zero.cells 203)).next=h.next+2:=rfl
 rw[show(h.new (.cells (Bc p) 245)).next=h.next+1 from rfl];generalize (h.new (.cells (Bc p) 245)).new (.cells En.zero.cells 203)=h1 at x1 m u n1⊢;have bb:=x1.hb hb;have wfE:=Axz (kind:=kind) hp hu;have fin:∀(e:En) (er:Int) (h5:Ab) (kk:Ab->R),(∀h',kk h'=I9 TT [.c (.ptr (h.next+1) 0) 203,.v (I er)] h')->HB h5->Ext h h5->h5.get (h.next+1)=some (.cells En.zero.cells 203)->e.Wf->(e,er)=ofF kind p ->
  Ok (stE 38 (.ptr (h.next+1) 0) (.agg e.cells) h5 kk) fun v h'=>v=.tuple [.agg (ofF kind p).1.cells,I (ofF kind p).2]/\Ext h h':=by
  intro e er h5 kk db Y x5 g5 wf he;have fl:=En.Bk wf;refine Ok.st e.cells g5 rfl (by show F9 e.cells=38;rw[Bf,fl]) (Bm (by rw[zl];exact fl.symm)) ?_;have g6:(h5.put (h.next+1) (.cells e.cells 203)).get (h.next+1)=some (.cells e.cells 203):=Ae _ _ _;rw[db,Fu g6 Bck.1 Bck.2 fl,<-he];exact .ret ⟨rfl,x5.Ak (.inr (by omega)) (Y _ _ g5) _⟩
 rw[show ∀k:EV->R,Qi 44 1 (.ptr h.next 0) none none none k=k (.slice h.next 0 44 44 false)from fun k=>rfl];have bs:Bs h1 (.slice h.next 0 44 44 false) h.next 0 p:=by
  refine⟨44,false,_,Bc p,by rw[hp],by omega,m,rfl,by rw[ul];omega,?_⟩;rw[dA,hp,<-ul,cM]
 refine(Aun (K:=K) bs bb (by omega) (by omega)).Ap ?_;rintro _ h5 ⟨Rr,q,rfl,d0,x5,Y,en⟩;have m:=x5.at bb m;have u:=x5.at bb u;have dc:=x1.trans x5;have eo:Rr<h5.next:=by obtain⟨_,g,_⟩:=d0.N8;exact Y _ _ g
 have et:h.next+1<Rr:=by have:=d0.ne;omega
 have up:∀{Z hc:Ab},Ext h Z->Ar (fun i=>i=Rr) Z hc->Ext h hc:=fun x c=>x.then c fun j hj de=>by
  have hj:j=Rr:=hj;omega
 have d:∀{Z hc:Ab} {i:Nat} {o:Dz},Ar (fun i=>i=Rr) Z hc->HB Z->Z.get i=some o->i≠Rr->hc.get i=some o:=fun c hb g hi=>c.at hb g hi
 refine(Afs (K:=K) (w:=6) d0 Y (by omega) (by decide) (by decide) (by omega) hu).Ap ?_;rintro _ h6 ⟨rfl,d1,c6,bf⟩;have m:=d c6 Y m (by omega);have u:=d c6 Y u (by omega);have x6:=up dc c6;refine(Afs (K:=K) (w:=1) d1 bf (by omega) (by decide) (by decide) (by simp only[ak];omega) (fun b hb=>hu b (aM hb))).Ap ?_;rintro _ h7 ⟨rfl,d2,c7,bj⟩;have m:=d c7 bf m (by omega);have u:=d c7 bf u (by omega);have x7:=up x6 c7;refine(Afs (K:=K) (w:=1) d2 bj (by omega) (by decide) (by decide) (by simp only[ak];omega) (fun b hb=>hu b (aM (aM hb)))).Ap ?_;rintro _ h8 ⟨rfl,d3,c8,bk⟩;have m:=d c8 bj m (by omega);have u:=d c8 bj u (by omega);have x8:=up x7 c8;refine(Afs (K:=K) (w:=2) d3 bk (by omega) (by decide) (by decide) (by simp only[ak];omega) (fun b hb=>hu b (aM (aM (aM hb))))).Ap ?_;rintro _ h9 ⟨rfl,d4,c9,bn⟩;have m:=d c9 bk m (by omega);have u:=d c9 bk u (by omega);have x9:=up x8 c9;refine(Afs (K:=K) (w:=2) d4 bn (by omega) (by decide) (by decide) (by simp only[ak];omega) (fun b hb=>hu b (aM (aM (aM (aM hb)))))).Ap ?_;rintro _ O ⟨rfl,d5,aw,W⟩;have m:=d aw bn m (by omega);have u:=d aw bn u (by omega);have di:=up x9 aw
 try rw[En.Ib]
 rw[Az (A8l kind _ _ _ _ _)]
 try simp only[Aa]
 have aa:Ext O (O.new (.cells En.zero.cells 203)):=Ar.new _ _;have H:(O.new (.cells En.zero.cells 203)).get O.next=some (.cells En.zero.cells 203):=Ac _ _
 have bz:(O.new (.cells En.zero.cells 203)).next=O.next+1:=rfl
 have m:=aa.at W m;have u:=aa.at W u;have J:=aa.hb W;have d5:=d5.ext W aa;have b5:=di.trans aa;have hF:Rr<O.next:=by have:=c6.next;have:=c7.next;have:=c8.next;have:=c9.next;have:=aw.next;omega
 generalize O.new (.cells En.zero.cells 203)=af at aa H bz m u J d5 b5⊢;generalize O.next=Q at H bz hF⊢
 have G:(((((p.drop 6).drop 1).drop 1).drop 2).drop 2).length=32:=by simp only[ak];omega
 unfold ofF Z0 at fin⊢;unfold Z0 at wfE;generalize (((((p.drop 6).drop 1).drop 1).drop 2).drop 2)=body at d5 G fin wfE⊢;generalize Xk (p.take 6)=A at fin wfE⊢;generalize Xk ((p.drop 6).take 1)=B at fin wfE⊢;generalize Xk (((p.drop 6).drop 1).take 1)=C at fin wfE⊢;generalize Xk ((((p.drop 6).drop 1).drop 1).take 2)=D at fin wfE⊢;generalize Xk (((((p.drop 6).drop 1).drop 1).drop 2).take 2)=F at fin wfE⊢;have b6:body.take 32=body:=bP (by omega);rw[b6]at fin wfE⊢;have a2:([I kind,Nk .i64 A,Nk .i64 B,Nk .i64 C,Nk .i64 D,Nk .i64 F]++Bc C7).length=38:=by rw[aF,Bi];rfl
 refine Ok.st ([I kind,Nk .i64 A,Nk .i64 B,Nk .i64 C,Nk .i64 D,Nk .i64 F]++Bc C7) H rfl (by show F9 ([I kind,Nk .i64 A,Nk .i64 B,Nk .i64 C,Nk .i64 D,Nk .i64 F]++Bc C7)=38;rw[Bf,a2]) (Bm (by rw[zl];exact a2.symm)) ?_;have lF:=J _ _ H;have ag:Ar (fun i=>i=Q) af (af.put Q (.cells ([I kind,Nk .i64 A,Nk .i64 B,Nk .i64 C,Nk .i64 D,Nk .i64 F]++Bc C7) 203)):=(Ar.refl (S:=fun i=>i=Q) af).Ak (.inl rfl) lF _;have H:(af.put Q (.cells ([I kind,Nk .i64 A,Nk .i64 B,Nk .i64 C,Nk .i64 D,Nk .i64 F]++Bc C7) 203)).get Q=some (.cells ([I kind,Nk .i64 A,Nk .i64 B,Nk .i64 C,Nk .i64 D,Nk .i64 F]++Bc C7) 203):=Ae _ _ _;have L:=J.put lF (.cells ([I kind,Nk .i64 A,Nk .i64 B,Nk .i64 C,Nk .i64 D,Nk .i64 F]++Bc C7) 203);generalize af.put Q (.cells ([I kind,Nk .i64 A,Nk .i64 B,Nk .i64 C,Nk .i64 D,Nk .i64 F]++Bc C7) 203)=dj at ag H L⊢;have b7:∀{Z hc:Ab},Ext h Z->Ar (fun i=>i=Q) Z hc->Ext h hc:=fun x c=>x.then c fun j hj de=>by
  have hj:j=Q:=hj;omega
 have T:∀{Z hc:Ab} {i:Nat} {o:Dz},Ar (fun i=>i=Q) Z hc->HB Z->Z.get i=some o->i≠Q->hc.get i=some o:=fun c hb g hi=>c.at hb g hi
 have m:=T ag J m (by omega);have u:=T ag J u (by omega);have d5:=d5.chg J ag (by have:=d5.ne;intro y;omega) (by intro y;omega);have dm:=b7 b5 ag
 try simp only[Aa]
 rw[show ∀k:EV->R,Qi 32 1 (.ptr Q 6) none none none k=k (.slice Q 6 32 32 false)from fun k=>rfl];have dl:Rd dj.lift Rr q (0+6+1+1+2+2) body:=d5.chg L (S:=fun _=>False) ⟨fun i _ _=>By _ _,aC _,fun w _ w2 _=>w2,fun y=>Du y⟩ id id;refine Ok.Yh (S:=fun i=>i=Rr) (by kernel_rfl) (by kernel_rfl) (fun _=>by kernel_rfl) (A6m (K:=K) (n:=32) dl (Du L) (by decide) (by omega)) (fun _ _ p=>p.2.2.1) ?_;rintro b8 ec ah s' ⟨ai,_,_,bo⟩ a6 ax bp;have X:=a6.hb bo;have ai:=ai.frame (a6.get _);rw[b6]at ai;have m:=d ax L m (by omega);have u:=d ax L u (by omega);have H:=d ax L H (by omega);have dt:=up dm ax;have hlen:lenOf b8=some 32:=by have:=ai.len;rw[G]at this;exact this
 have ca:O1 ah.lift 1 32 b8=some (Bc body):=by have:=ai.lift.cells;rw[G]at this;exact this
 have du:=A34 (h:=ah.lift) (i:=Q) (n:=32) (r:=32) (op:=false) (t:=203) (hd:=[I kind,Nk .i64 A,Nk .i64 B,Nk .i64 C,Nk .i64 D,Nk .i64 F]) (Cr:=Bc C7) (by rw[By];exact H) hlen (by decide) ca (by rw[Bi,G]) (by rw[Bi];rfl);have cc:=X _ _ H;refine Ok.Yh (S:=fun i=>i=Q) (by rcases bp with rfl|⟨w,rfl,_⟩<;>kernel_rfl) (by rcases bp with rfl|⟨w,rfl,_⟩<;>kernel_rfl) (fun w=>by rcases bp with rfl|⟨w,rfl,_⟩<;>kernel_rfl) (P:=fun v h'=>h'=ah.lift.put Q (.cells ([I kind,Nk .i64 A,Nk .i64 B,Nk .i64 C,Nk .i64 D,Nk .i64 F]++Bc body) 203)) ⟨_,_,du,rfl⟩ (fun _ _ p=>by rw[p];exact(Ar.refl (S:=fun i=>i=Q) ah.lift).Ak (.inl rfl) (show Q<ah.lift.next from cc) _) ?_;rintro eN ed dw s2 rfl cf ay _;have U:=ay.hb X;have H:dw.get Q=some (.cells (⟨kind,A,B,C,D,F,body⟩:En).cells 203):=by rw[cf.get];exact Ae _ _ _
 have m:=T ay X m (by omega);have u:=T ay X u (by omega);have dx:=b7 dt ay;generalize hE:(⟨kind,A,B,C,D,F,body⟩:En)=E at fin wfE H⊢;have el:=En.Bk wfE;rw[C8 H rfl,Am el];simp only[G8];refine(Aqm (K:=K) wfE U hK).Ap ?_;rintro _ V ⟨rfl,aj⟩;have M:=aj.hb U;have m:=aj.at U m;have u:=aj.at U u;have H:=aj.at U H;have a7:=dx.trans aj;have ch:=M _ _ H
 try simp only[Aa]
 rw[Asb];have ab:Ext V (V.new (.cells (Bc Vc) 245)):=Ar.new _ _;have g8:(V.new (.cells (Bc Vc) 245)).get V.next=some (.cells (Bc Vc) 245):=Ac _ _
 have m:=ab.at M m;have u:=ab.at M u;have H:=ab.at M H;have al:=ab.hb M;have ba:=a7.trans ab;have cl:h.next+2<=V.next:=by have:=x1.next;have:=a7.next;have:=M _ _ (by assumption:V.get (h.next+1)=some (.cells En.zero.cells 203));omega
 generalize V.new (.cells (Bc Vc) 245)=ad at ab g8 m u H al ba⊢;generalize V.next=P at g8 ch cl⊢
 have bl:(Bc (D9 E).1).length=44:=by rw[Bi,Aj2 wfE]
 refine Ok.st (Bc (D9 E).1) g8 rfl (by show F9 (Bc (D9 E).1)=44;rw[Bf,bl]) (Bm (by rw[Bi];exact bl.symm)) ?_;have l8:=al _ _ g8;have g8:(ad.put P (.cells (Bc (D9 E).1) 245)).get P=some (.cells (Bc (D9 E).1) 245):=Ae _ _ _;have m:(ad.put P (.cells (Bc (D9 E).1) 245)).get h.next=some (.cells (Bc p) 245):=by rw[Af _ (by omega)];exact m
 have u:(ad.put P (.cells (Bc (D9 E).1) 245)).get (h.next+1)=some (.cells En.zero.cells 203):=by rw[Af _ (by omega)];exact u
 have H:(ad.put P (.cells (Bc (D9 E).1) 245)).get Q=some (.cells E.cells 203):=by rw[Af _ (by omega)];exact H
 have ao:Ext h (ad.put P (.cells (Bc (D9 E).1) 245)):=ba.Ak (.inr (by omega)) l8 _;have aq:=al.put l8 (.cells (Bc (D9 E).1) 245);generalize ad.put P (.cells (Bc (D9 E).1) 245)=bu at g8 m u H ao aq⊢;simp only[I,Ad];have no:¬((D9 E).2=0/\(D9 E).1=p)->Ok (Bu (D5 [(0,1),(1,1),(2,1),(3,1),(4,1),(5,1),(6,32)]) En.zero.cells [] fun dy=>stE 38 (.ptr (h.next+1) 0) dy bu fun z=>I9 TT [.c (.ptr (h.next+1) 0) 203,.v (.int .i64 10)] z) _:=fun dT=>by
  rw[Az (l:=En.zero.cells) rfl];exact fin En.zero 10 bu _ (fun _=>rfl) aq ao u En.G7 (by rw[aK dT])
 by_cases h0:(D9 E).2=0
 ·rw[show decide (¬(D9 E).2=0)=false from aQ fun y=>y h0]
  simp only[Aa];rw[C8 g8 rfl,Am bl];simp only[G8];rw[C8 m rfl,Am ul];simp only[G8];rw[Bf2 Bnr (Aj2 wfE) hp];by_cases az:(D9 E).1=p
  ·rw[show decide (¬(D9 E).1=p)=false from aQ fun y=>y az]
   simp only[Agt,Aa,Avu];rw[C8 H rfl,Am el];exact fin E 0 bu _ (fun _=>rfl) aq ao u wfE (by rw[aN ⟨h0,az⟩])
  ·rw[show decide (¬(D9 E).1=p)=true from aP az]
   simp only[Agt,Aa];exact no fun y=>az y.2
 ·rw[show decide (¬(D9 E).2=0)=true from aP h0]
  simp only[Aa,Agt];exact no fun y=>h0 y.1
def Uj(f:Fr):En × Int:=
 if ¬(ofF f.kind f.body).2=0 then(En.zero,(ofF f.kind f.body).2)else
 if ¬(J3 (ofF f.kind f.body).1 f.An f.off f.Av f.seq).2=0 then(En.zero,(J3 (ofF f.kind f.body).1 f.An f.off f.Av f.seq).2)else((ofF f.kind f.body).1,0)
theorem A0o(w:f.Wf)(hb:HB h)(X:10000<K):
 Ok (Akz K (.agg f.cells) h) fun v h'=>v=.tuple [.agg (Uj f).1.cells,I (Uj f).2]/\(Uj f).1.Wf/\Ext h h':=by
 have l0:f.cells[0]? = some (I f.kind):=rfl;have l1:f.cells[1]? = some (I f.An):=rfl;have Z:f.cells[2]? = some (I f.off):=rfl;have l3:f.cells[3]? = some (I f.Av):=rfl;have l4:f.cells[4]? = some (I f.seq):=rfl;have S:=Fr.Bk w;have l5:Mh f.cells 5 44=some (Bc f.body):=by
  rw[Fc (by rw[S];decide)];show some (List.take 44 (Bc f.body))=_;rw[bP (by rw[Bi,w.len];decide)]
 have zl:=En.Bk En.G7;have o:=Bgi (kind:=f.kind) w.len w.u8;have ol:=En.Bk o;simp only[Akz,Aa];rw[En.Ib];have T:Ext h ((h.new (.cells f.cells 247)).new (.cells En.zero.cells 203)):=(Ar.new _ _).Di _;have d:((h.new (.cells f.cells 247)).new (.cells En.zero.cells 203)).get h.next=some (.cells f.cells 247):=by
  rw[Ay _ (aE _)];exact Ac _ _
 have g:((h.new (.cells f.cells 247)).new (.cells En.zero.cells 203)).get (h.next+1)=some (.cells En.zero.cells 203):=Ac _ _;have n1:((h.new (.cells f.cells 247)).new (.cells En.zero.cells 203)).next=h.next+2:=rfl
 rw[show(h.new (.cells f.cells 247)).next=h.next+1 from rfl];generalize (h.new (.cells f.cells 247)).new (.cells En.zero.cells 203)=h1 at T d g n1⊢;have u:=T.hb hb;have fin:∀(e:En) (D:Int) (y:Ab) (kk:Ab->R),(∀h',kk h'=I9 TT [.c (.ptr (h.next+1) 0) 203,.v (I D)] h')->HB y->Ext h y->y.get (h.next+1)=some (.cells En.zero.cells 203)->e.Wf->(e,D)=Uj f ->
  Ok (stE 38 (.ptr (h.next+1) 0) (.agg e.cells) y kk) fun v h'=>v=.tuple [.agg (Uj f).1.cells,I (Uj f).2]/\(Uj f).1.Wf/\Ext h h':=by
  intro e D y kk U A E Y wf he;have fl:=En.Bk wf;refine Ok.st e.cells Y rfl (by show F9 e.cells=38;rw[Bf,fl]) (Bm (by rw[zl];exact fl.symm)) ?_;have g6:(y.put (h.next+1) (.cells e.cells 203)).get (h.next+1)=some (.cells e.cells 203):=Ae _ _ _;rw[U,Fu g6 Bck.1 Bck.2 fl,<-he];exact .ret ⟨rfl,wf,E.Ak (.inr (by omega)) (A _ _ Y) _⟩
 rw[Cy d rfl,l0];simp only[G8];rw[C8 d rfl,l5];simp only[G8];refine(A63 (K:=K) w.len w.u8 u X f.kind).Ap ?_;rintro _ h2 ⟨rfl,F⟩;have B:=F.hb u;have V:=T.trans F;have d:=F.at u d;have g:=F.at u g;have n2:h.next+2<=h2.next:=by have:=F.next;omega
 try simp only[Aa]
 try rw[En.Ib]
 have G:Ext h2 (h2.new (.cells En.zero.cells 203)):=Ar.new _ _;have m:(h2.new (.cells En.zero.cells 203)).get h2.next=some (.cells En.zero.cells 203):=Ac _ _
 have d:=G.at B d;have g:=G.at B g;have C:=G.hb B;have H:=V.trans G;generalize h2.new (.cells En.zero.cells 203)=J at G m d g C H⊢;generalize h2.next=P at m n2⊢
 refine Ok.st (ofF f.kind f.body).1.cells m rfl (by show F9 (ofF f.kind f.body).1.cells=38;rw[Bf,ol]) (Bm (by rw[zl];exact ol.symm)) ?_;have L:=C _ _ m;have m:(J.put P (.cells (ofF f.kind f.body).1.cells 203)).get P=some (.cells (ofF f.kind f.body).1.cells 203):=Ae _ _ _;have d:(J.put P (.cells (ofF f.kind f.body).1.cells 203)).get h.next=some (.cells f.cells 247):=by rw[Af _ (by omega)];exact d
 have g:(J.put P (.cells (ofF f.kind f.body).1.cells 203)).get (h.next+1)=some (.cells En.zero.cells 203):=by rw[Af _ (by omega)];exact g
 have W:Ext h (J.put P (.cells (ofF f.kind f.body).1.cells 203)):=H.Ak (.inr (by omega)) L _;have j:=C.put L (.cells (ofF f.kind f.body).1.cells 203);generalize J.put P (.cells (ofF f.kind f.body).1.cells 203)=h4 at m d g W j⊢;unfold Uj at fin⊢;generalize (ofF f.kind f.body).2=D at fin⊢;generalize (ofF f.kind f.body).1=e at fin o ol m⊢;simp only[I,Ad];by_cases h0:D=0
 ·subst h0
  simp only[aD,aA,Aa,aY,Aqo]at fin⊢;rw[C8 m rfl,Am ol];simp only[G8];rw[Cy d rfl,l1];simp only[G8,Aa];rw[Cy d rfl,Z];simp only[G8,Aa];rw[Cy d rfl,l3];simp only[G8,Aa];rw[Cy d rfl,l4];simp only[G8,Aa];refine(Aft (K:=K) o j X f.An f.off f.Av f.seq).Ap ?_;rintro _ y ⟨rfl,E⟩;have A:=E.hb j;have g:=E.at j g;have m:=E.at j m;have M:=W.trans E;generalize (J3 e f.An f.off f.Av f.seq).2=O at fin⊢;simp only[Aa,I,Ad];by_cases Q:O=0
  ·subst Q
   simp only[aD,aA,Aa,aY,Aqi]at fin⊢;rw[C8 m rfl,Am ol];exact fin e 0 y _ (fun _=>rfl) A M g o rfl
  ·simp only[Q,aG,aB,Aa,bG]at fin⊢
   rw[Az (l:=En.zero.cells) rfl];exact fin En.zero O y _ (fun _=>rfl) A M g En.G7 rfl
 ·simp only[h0,aG,aB,Aa,bG]at fin⊢
  rw[Az (l:=En.zero.cells) rfl];exact fin En.zero D h4 _ (fun _=>rfl) j W g En.G7 rfl
theorem Bbd:∀(w a:Nat),Xk (Uh w a)=a%256^w
 | 0,a=>by simp[Uh,Xk,Nat.mod_one]
 | w+1,a=>by
  rw[Ayh,A3q,Bbd w a,H7,Nat.mod_pow_succ]
theorem Atx {w:Nat}{b:Int}(h0:0<=v)(hb:v<=b)(hw:b<(256^w:Nat)):((Xk (Uh w v.toNat):Nat):Int)=v:=by
 rw[Bbd,ek (by omega)];omega
theorem Bot {a b:List Nat}(h:a.length=n):(a++b).take n=a:=by subst h;simp
theorem Bn4 {a b:List Nat}(h:a.length=n):(a++b).drop n=b:=by subst h;simp
theorem Az9(w:e.Wf)(d:erB e=true):Z0 e.kind (Wi e)=e:=by
 obtain⟨⟨g,b1⟩,⟨j,b2⟩,⟨a3,b3⟩,⟨a4,b4⟩,⟨a5,m⟩,_⟩:=Baq d;have o:=w.len;have t32:e.bytes.take 32=e.bytes:=bP (by omega);unfold Z0 Wi;simp only[br,Bot (H7 _ _),Bn4 (H7 _ _),t32];rw[Atx (w:=6) g b1 (by decide),Atx (w:=1) (by omega) b4 (by decide),Atx (w:=1) j b2 (by decide),Atx (w:=2) a5 m (by decide),Atx (w:=2) a3 b3 (by decide)]
theorem Bc3(w:e.Wf)(d:erB e=true):ofF e.kind (Wi e)=(e,0):=by
 unfold ofF;rw[Az9 w d];unfold D9;rw[aN d];simp
theorem A29(w:e.Wf){An off Av seq:Int}(h:(J3 e An off Av seq).2=0):
 (J3 e An off Av seq).1=⟨e.kind,An,off,Av,seq,Wi e⟩/\frB ⟨e.kind,An,off,Av,seq,Wi e⟩=true/\erB e=true/\Uj ⟨e.kind,An,off,Av,seq,Wi e⟩=(e,0):=by
 by_cases d:erB e=true/\frB ⟨e.kind,An,off,Av,seq,(D9 e).1⟩=true/\e.first<=seq/\seq-e.count<e.first
 ·have hb:(D9 e).1=Wi e:=by unfold D9;rw[aN d.1]
  have g:J3 e An off Av seq=(⟨e.kind,An,off,Av,seq,Wi e⟩,0):=by unfold J3;rw[aN d,hb]
  rw[hb]at d;refine⟨by rw[g],d.2.1,d.1,?_⟩;unfold Uj;simp only[Bc3 w d.1,g];simp
 ·exfalso
  unfold J3 at h;rw[aK d]at h;exact absurd h (by decide)
end Go.Ev
