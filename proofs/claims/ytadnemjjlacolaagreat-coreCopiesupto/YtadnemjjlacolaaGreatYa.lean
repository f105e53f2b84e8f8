import Derived.Test.YtadnemjjlacolaaGreatXb
import Derived.Test.YtadnemjjlacolaaGreatXa
set_option linter.all false
namespace Go.Ev
open Go.Proofs
set_option maxRecDepth 100000
variable {K P a b i n q t off:Nat}{k:EV->R}{p out:List Nat}{h h':Ab}{v kind:Int}{x:EV}{op:Bool}
abbrev Nk(k:IntKind)(a:Nat):EV:=.int k (Int.ofNat a)
theorem wrap_u8(a:Nat):Dz .u8 (Int.ofNat a)=Int.ofNat (a%256):=by
 rw[Oc];rfl
theorem wrap_u32(a:Nat):Dz .u32 (Int.ofNat a)=Int.ofNat (a%4294967296):=by
 rw[Oc];rfl
theorem A3i {c:IntKind}:Xp .u8 (.int c (Int.ofNat a)) k=k (Nk .u8 (a%256)):=by
 rw[A76,wrap_u8]
theorem Auv:Ale (bin TT .shr t) (.int .i64 (Int.ofNat a)) (.int .u64 8) k=k (Nk .i64 (a/256)):=by
 show k (.int .i64 (.ofNat (Nat.shiftRight a 8)))=_;have:Nat.shiftRight a 8=a/256:=fS a 8;rw[this]
theorem Ays {s:Nat}(hs:s<=32):Ale (bin TT .shr t) (.int .u32 (Int.ofNat a)) (.int .u64 (Int.ofNat s)) k=k (Nk .u32 (a/2^s)):=by
 show k (.int .u32 (.ofNat (Nat.shiftRight a (Bf (Nat.ble s 32) s 32))))=_;rw[aS hs,Ak];have:Nat.shiftRight a s=a/2^s:=fS a s;rw[this]
theorem Bi4(d:a<4294967296)(hb:b<4294967296):Ale (bin TT .xor t) (.int .u32 (Int.ofNat a)) (.int .u32 (Int.ofNat b)) k=k (Nk .u32 (a ^^^ b)):=by
 show k (.int .u32 (Dz .u32 (.ofNat (Nat.xor a b))))=_;rw[wrap_u32];have:Nat.xor a b<2^32:=eC (n:=32) d hb;rw[fU (by exact this)];rfl
theorem Bqd(d:a<256)(hb:b<256):Ale (bin TT .xor t) (.int .u8 (Int.ofNat a)) (.int .u8 (Int.ofNat b)) k=k (Nk .u8 (a ^^^ b)):=by
 show k (.int .u8 (Dz .u8 (.ofNat (Nat.xor a b))))=_;rw[wrap_u8];have:Nat.xor a b<2^8:=eC (n:=8) d hb;rw[fU (by exact this)];rfl
def wd:Nat->Nat->Nat
 | 0,_=>1
 | f+1,a=>if a/256=0 then 1 else wd f (a/256)+1
theorem Btn:∀(f a w:Nat),a<256^(f+1)->1<=w->(wd f a<=w↔a<256^w)
 | 0,a,w,h,hw=>by
  refine⟨fun _=>aK h (fR (by decide) (by omega)),fun _=>hw⟩
 | f+1,a,w,h,hw=>by
  unfold wd;by_cases h0:a/256=0
  ·rw[aG h0]
   refine⟨fun _=>?_,fun _=>hw⟩;have:a<256:=by omega
   exact aK this (by have:=fR (n:=256) (by decide) hw;simpa using this)
  ·rw[aF h0]
   have d:=Btn f (a/256) (w-1) (by rw[eR]at h;exact fQ (by rw[gC];exact h));by_cases g:w=1
   ·subst g
    refine⟨fun y=>?_,fun y=>?_⟩
    ·have:1<=wd f (a/256):=by cases f<;>unfold wd<;>(try split)<;>omega
     omega
    ·exfalso;apply h0;simp at y;omega
   ·have d:=d (by omega)
    obtain⟨v,rfl⟩:∃v,w=v+1:=⟨w-1,by omega⟩;rw[gG]at d;rw[eR];refine⟨fun y=>?_,fun y=>?_⟩
    ·have:=d.1 (by omega)
     have:=Nat.div_lt_iff_lt_mul (k:=256) (x:=a) (y:=256^v) (by decide);omega
    ·have:=d.2 (fQ (by rw[gC];exact y))
     omega
theorem Bhm:∀(f m a n:Nat) (h:Ab),f<m->a<256^(f+1)->n+f<=100->f<=10 ->
 Oo K m (Nk .i64 a) (Nk .i64 n) h=Ab8 K (Nk .i64 (a/256^(wd f a-1))) (Nk .i64 (n+wd f a-1)) h:=by
 intro f;induction f with
 | zero=>
  intro m a n h hm d g j;obtain⟨m,rfl⟩:∃k,m=k+1:=⟨m-1,by omega⟩;have:a/256=0:=by simp at d;omega
  simp only[Oo,dr];rw[Auv,this];simp only[Nk,Ac];rw[show decide ((0:Int)<Int.ofNat 0)=false from rfl];simp only[Aa,wd,gK,Nat.pow_zero,Nat.div_one,gG]
 | succ f o=>
  intro m a n h hm d g j;obtain⟨m,rfl⟩:∃k,m=k+1:=⟨m-1,by omega⟩;simp only[Oo,dr];rw[Auv];simp only[Nk,Ac];unfold wd;by_cases h0:a/256=0
  ·rw[aG h0,h0]
   rw[show decide ((0:Int)<Int.ofNat 0)=false from rfl];simp only[Aa,gK,Nat.pow_zero,Nat.div_one,gG]
  ·rw[aF h0,show decide ((0:Int)<Int.ofNat (a/256))=true from aM (by show(0:Int)<((a/256:Nat):Int);omega)]
   simp only[Aa,Auw];rw[Auv];simp only[Nk,Ac];rw[show Dz .i64 (Int.ofNat n+1)=Int.ofNat (n+1)from Cj (by show _<=((n:Nat):Int)+1;omega) (by show((n:Nat):Int)+1<=_;omega)];have e:=o m (a/256) (n+1) h (by omega) (fQ (by rw[gC,<-eR];exact d)) (by omega) (by omega);rw[e];have hw:1<=wd f (a/256):=by cases f<;>unfold wd<;>(try split)<;>omega
   obtain⟨u,hu⟩:∃u,wd f (a/256)=u+1:=⟨wd f (a/256)-1,by omega⟩;rw[hu,gG,show u+1+1-1=u+1 from rfl,Nat.pow_succ',fG,show n+1+(u+1)-1=n+(u+1+1)-1 by omega]
def Ajn(a:Nat):Nat:=if 7<wd 7 a then 8 else wd 7 a
theorem A7u(g:a<9223372036854775808)(j:1000<K)(h:Ab):Aa7 K (.int .i64 (Int.ofNat a)) h=some (Nk .i64 (Ajn a),h):=by
 simp only[Aa7,dr];unfold Ajn;have e:=Bhm (K:=K) 7 K a 1 h (by omega) (Nat.lt_trans g (by decide)) (by decide) (by decide);have:(EV.int .i64 1)=Nk .i64 1:=rfl;rw[this,e];have hw:1<=wd 7 a:=by unfold wd;split<;>omega
 simp only[Ab8,Nk,Ac];rw[show decide (Int.ofNat (a/256^(wd 7 a-1))<0)=false from aP (by show ¬(((a/256^(wd 7 a-1):Nat):Int)<0);exact Int.not_lt.2 (Int.natCast_nonneg _))];rw[show 1+wd 7 a-1=wd 7 a by omega];by_cases d:7<wd 7 a
 ·rw[show decide ((7:Int)<Int.ofNat (wd 7 a))=true from aM (by show(7:Int)<((wd 7 a:Nat):Int);omega),aG d]
  simp only[Aa,Adk];rfl
 ·rw[show decide ((7:Int)<Int.ofNat (wd 7 a))=false from aP (by show ¬((7:Int)<((wd 7 a:Nat):Int));omega),aF d]
  simp only[Aa,Adk,Aun]
theorem Bmh(g:1000<K)(h:Ab):Aa7 K (.int .i64 (Int.negSucc a)) h=some (I 8,h):=by
 obtain⟨m,rfl⟩:∃k,K=k+1:=⟨K-1,by omega⟩;simp only[Aa7,Oo,dr];have e:∀k:EV->R,Ale (bin TT .shr 3) (.int .i64 (Int.negSucc a)) (.int .u64 8) k=k (.int .i64 ((Int.negSucc a).fdiv 256)):=fun k=>rfl
 have d:(Int.negSucc a).fdiv 256<0:=by
  rw[fO _ (by decide)];have:Int.negSucc a<0:=Int.negSucc_lt_zero a;omega
 rw[e];simp only[Ac];rw[show decide ((0:Int)<(Int.negSucc a).fdiv 256)=false from aP (by omega)];simp only[Aa,Ab8,Ac];rw[show decide (Int.negSucc a<0)=true from aM (Int.negSucc_lt_zero a)];simp only[Aa,Adk,I]
theorem A7f {w:Nat}(d:a<9223372036854775808)(g:1<=w)(j:w<=7):Ajn a<=w↔a<256^w:=by
 have:=Btn 7 a w (Nat.lt_trans d (by decide)) g;rw[<-this];unfold Ajn;split<;>omega
def Zz(w a:Nat):List Nat:=(List.range w).map fun i=>a/256^i%256
theorem A4b(w a:Nat):Zz (w+1) a=Zz w a++[a/256^w%256]:=by unfold Zz;rw[dA,cX];rfl
theorem H6(w a:Nat):(Zz w a).length=w:=by simp[Zz]
theorem Ayq(a b:List Nat):Bh (a++b)=Bh a++Bh b:=cX
theorem Be(a:List Nat):(Bh a).length=a.length:=bX _
structure A58(h:Ab)(P t:Nat)(out:List Nat)(bad:Bool):Prop where
 Qu:∃s q,h.get P=some (.cells [s,.bool bad] t)/\Cs h s q 5 1 out.length (Bh out)/\(0<out.length->P<q)
theorem Agy(n:Int)(h:Ab):Ado K (I n) h=some (.bool (decide (1<=n/\n<=7)),h):=by
 simp only[Ado,I,Ac,Aa];by_cases d:1<=n
 ·simp only[d,aB,Aa,Ac,Ag1,gO]
 ·simp only[d,aA,Aa,Ag1,gN]
theorem Bn1 {w:Nat}{bad:Bool}(D:a<9223372036854775808)(hw:w<=7)(E:out.length<=60000)(h0:Ab)(F:P<h0.next):∀(m i:Nat) (h:Ab),w-i<m->i<=w->HB h->Av (fun i=>P<=i) h0 h->A58 h P t (out++Zz i a) bad ->
 Ok (K7 K m (.ptr P 0) (Nk .i64 (a/256^i)) (I w) (I i) h) fun _ h'=>A58 h' P t (out++Zz w a) bad/\Av (fun i=>P<=i) h0 h'/\HB h':=by
 intro m;induction m with
 | zero=>intro i h hm;omega
 | succ m A=>
  intro i h hm G hb c p;obtain⟨s,q,g,r,l⟩:=p.Qu;simp only[K7,I,Ac,Aa];by_cases d:(i:Int)<w
  ·simp only[d,aB,Aa,Aei,C8 g rfl]
   rw[wrap_u8];have hlen:(out++Zz i a).length=out.length+i:=by rw[aH,H6]
   refine Qe (z:=[.int .u8 0]) r hb rfl rfl rfl (by omega) (by omega) ?_;intro h2 B H c2;have C:¬(0<(out++Zz i a).length/\P=q):=fun y=>by have:=l y.1;omega
   have o:=c2.at hb g C;have u:=(c2.hb hb) _ _ o;refine Ok.st1 o rfl rfl (by show 0<2;decide) ?_;rw[Auv];simp only[Aee,I,Ac];rw[Cj,fG,<-eR];have c3:Av (fun i=>P<=i) h (h2.put P (.cells ([s,EV.bool bad].set 0 (.slice (h.next+1) 0 ((out++Zz i a).length+1) ((out++Zz i a).length+1) true)) t)):=(c2.mono fun j hj=>by have:=l hj.1;show P<=j;omega).Ar (.inl (aE _)) u _;refine A (i+1) _ (by omega) (by omega) ((c2.hb hb).put u _) (c.trans c3) ?_;rw[A4b,<-cW];refine⟨_,h.next+1,Af _ _ _,?_,fun _=>by have:=c.next;omega⟩;have e1:((out++Zz i a)++[a/256^i%256]).length=(out++Zz i a).length+1:=by rw[aH];rfl
   have e2:Bh ((out++Zz i a)++[a/256^i%256])=Bh (out++Zz i a)++EV.cells (Nk .u8 (a/256^i%256)):=by rw[Ayq];rfl
   rw[e1,e2];refine B.frame fun _=>Ag _ ?_
   have:=hb _ _ g;omega
  ·have:i=w:=by omega
   subst this;simp only[d,aA,Aa];exact .ret ⟨p,c,hb⟩
def fits(w:Nat)(v:Int):Bool:=decide (0<=v/\v<(256^w:Nat))
theorem Oa {w:Nat}{bad:Bool}(u:1000<K)(p:A58 h P t out bad)(hb:HB h)(B:out.length<=60000)(C:1<=w)(A:w<=7)(D : -9223372036854775808<=v/\v<=9223372036854775807):
 Ok (Ex K (.ptr P 0) (I w) (I v) h) fun _ h'=>A58 h' P t (if fits w v=true then out++Zz w v.toNat else out) (bad||!fits w v)/\Av (fun i=>P<=i) h h'/\HB h':=by
 obtain⟨s,q,g,r,l⟩:=p.Qu;have j:=hb _ _ g;simp only[Ex,dr];rw[Agy,aM ⟨by omega,by omega⟩];simp only[Aa,Ac];have no:fits w v=false->Ok (stE 1 (.ptr P 1) (.bool true) h fun h=>some (.tuple [],h)) fun _ h'=>A58 h' P t (if fits w v=true then out++Zz w v.toNat else out) (bad||!fits w v)/\Av (fun i=>P<=i) h h'/\HB h':=by
  intro m;refine Ok.st1 g rfl rfl (by show 1<2;decide) ?_;refine .ret ⟨?_,(Av.refl (S:=fun i=>P<=i) h).Ar (.inl (aE _)) j _,hb.put j _⟩;rw[m,aF (by simp),cu,Bool.or_true];exact⟨s,q,Af _ _ _,r.frame fun y=>Ag _ (by have:=l y;omega),l⟩
 cases v with
 | negSucc a=>
  unfold I;rw[Bmh u,As];simp only[I,Ac];rw[show decide ((w:Int)<8)=true from aM (by omega)];simp only[Aa,Rp];exact no (aP fun y=>absurd y.1 (by have:=Int.negSucc_lt_zero a;omega))
 | ofNat a=>
  have o:a<9223372036854775808:=by have:((a:Nat):Int)<=9223372036854775807:=D.2;omega
  unfold I;rw[A7u o u,As];have d:=A7f o C A;simp only[Nk,Ac];by_cases hw:Ajn a<=w
  ·have m:fits w (Int.ofNat a)=true:=aM ⟨Int.natCast_nonneg a,by have:=d.1 hw;exact Int.ofNat_lt.2 this⟩
   rw[show decide ((w:Int)<Int.ofNat (Ajn a))=false from aP (by show ¬(w:Int)<((Ajn a:Nat):Int);omega)];simp only[Aa,Rp,Aes];have:=Bn1 (K:=K) (P:=P) (t:=t) (w:=w) (bad:=bad) o A B h j K 0 h (by omega) (cQ _) hb (Av.refl _) (by simpa [Zz]using p);rw[Nat.pow_zero,Nat.div_one]at this;rw[m,aG rfl,dR,Bool.or_false];exact this
  ·rw[show decide ((w:Int)<Int.ofNat (Ajn a))=true from aM (by show(w:Int)<((Ajn a:Nat):Int);omega)]
   simp only[Aa,Rp];exact no (aP fun y=>hw (d.2 (Int.ofNat_lt.1 y.2)))
theorem Ayz{bad:Bool}{new:List Nat}(p:A58 h P t out bad)(hb:HB h)(D:out.length<=60000)(u:lenOf x=some n)(h0:0<n)(E:n<=5000)(A:N9 h 1 n x=some (Bh new))(m:new.length=n):
 Ok (T2 K (.ptr P 0) x h) fun _ h'=>A58 h' P t (out++new) bad/\Av (fun i=>P<=i) h h'/\HB h':=by
 obtain⟨s,q,g,r,l⟩:=p.Qu;have F:=hb _ _ g;simp only[T2,Aa,C8 g rfl];obtain⟨h2,e,B,G,c2⟩:=Aeo r u h0 (by omega) (by omega) A (by rw[Be,m,bZ]);rw[e,As];have C:¬(0<out.length/\P=q):=fun y=>by have:=l y.1;omega
 have o:=c2.at hb g C;have d:=(c2.hb hb) _ _ o
 try simp only[Aa]
 refine Ok.st1 o rfl rfl (by show 0<2;decide) ?_;refine .ret ⟨⟨_,h.next,Af _ _ _,?_,fun _=>by omega⟩,(c2.mono fun j hj=>by have:=l hj.1;show P<=j;omega).Ar (.inl (aE _)) d _,(c2.hb hb).put d _⟩;rw[aH,m,Ayq];exact B.frame fun _=>Ag _
structure Bs(h:Ab)(x:EV)(b off:Nat)(l:List Nat):Prop where
 Qu:∃r op o row,x=.slice b off l.length r op/\l.length<=r/\h.get b=some o/\rowOf o=some row/\off+l.length<=row.length/\(row.drop off).take l.length=Bh l
theorem Bs.frame{l:List Nat}(s:Bs h x b off l)(e:h'.get b=h.get b):Bs h' x b off l:=by
 obtain⟨r,op,o,row,e1,e0,e2,e3,e4,e5⟩:=s.Qu;exact⟨r,op,o,row,e1,e0,by rw[e];exact e2,e3,e4,e5⟩
theorem Bs.lt{l:List Nat}(s:Bs h x b off l)(hb:HB h):b<h.next:=by
 obtain⟨r,op,o,row,e1,e0,e2,e3,e4,e5⟩:=s.Qu;exact hb _ _ e2
theorem Bs.ext{l:List Nat}(s:Bs h x b off l)(hb:HB h)(c:Ext h h'):Bs h' x b off l:=s.frame (c.get _ (s.lt hb) id)
theorem Bs.lift{l:List Nat}(s:Bs h x b off l):Bs h.lift x b off l:=s.frame (Ci _ _)
theorem Bs.len{l:List Nat}(s:Bs h x b off l):lenOf x=some l.length:=by
 obtain⟨r,op,o,row,rfl,_⟩:=s.Qu;rfl
theorem Bs.F3{l:List Nat}(s:Bs h x b off l)(k:EV->R):Ev.F3 x k=k (I l.length):=by
 obtain⟨r,op,o,row,rfl,_⟩:=s.Qu;rfl
theorem Bs.cells{l:List Nat}(s:Bs h x b off l):N9 h 1 l.length x=some (Bh l):=by
 obtain⟨r,op,o,row,rfl,e0,e2,e3,e4,e5⟩:=s.Qu;show Bf (Nat.beq l.length 0) (some []) (Ab4 h b off (Nat.mul l.length 1))=_;rw[show Nat.mul l.length 1=l.length from bZ _];have d:Oy row off l.length=some (Bh l):=by rw[Fw e4,e5]
 cases g:l with
 | nil=>rfl
 | cons a r=>
  rw[show Nat.beq (a::r).length 0=false from rfl,Bo];unfold Ab4;rw[e2,<-g];cases o<;>first|(cases e3;done)|(cases e3;exact d)
theorem Bs.ix{l:List Nat}(s:Bs h x b off l)(d:i<l.length):(∀k:EV->R,Z8 1 x (.int .i64 (i:Int)) k=k (.ptr b (off+i)))/\(∀k:EV->R,Fm (.ptr b (off+i)) h k=k (Nk .u8 l[i])):=by
 obtain⟨r,op,o,row,rfl,e0,e2,e3,e4,e5⟩:=s.Qu;refine⟨fun k=>by rw[Lv d,bZ],fun k=>?_⟩;rw[C8 e2 e3];have:row[off+i]? = some (Nk .u8 l[i]):=by
  have e5:=congrArg (fun z=>z[i]?) e5;simp only[eW,d,bM,dO]at e5;rw[e5];unfold Bh;rw[bG,aC d];rfl
 rw[this];rfl
theorem Bs.take{l:List Nat}(s:Bs h x b off l)(j:n<=l.length):∃y,(∀k:EV->R,Ant 1 x none (some (.int .i64 (n:Int))) none k=k y)/\Bs h y b off (l.take n):=by
 obtain⟨r,op,o,row,rfl,e0,e2,e3,e4,e5⟩:=s.Qu;have d:(l.take n).length=n:=by rw[cD,eO j]
 refine⟨EV.slice b off n r op,fun k=>?_,⟨r,op,o,row,by rw[d],by rw[d];omega,e2,e3,by rw[d];omega,?_⟩⟩
 ·have:slc (EV.slice b off l.length r op) 1 none (some (.int .i64 (n:Int))) none=some (EV.slice b off n r op):=by
   have g:bound (some (.int .i64 (n:Int))) r l.length=some n:=by
    show Bf (Nat.ble n r) (some n) none=_;rw[aS (by omega),Ak]
   unfold slc;simp only[g];cases op with
   | true=>rfl
   | false=>
    show Bf (Nat.ble 0 r) (some (EV.slice b (Bf (Nat.beq r 0) off (Nat.add off (Nat.mul 0 1))) n r false)) none=_;rw[aS (cQ _),Ak];have:Bf (Nat.beq r 0) off (Nat.add off (Nat.mul 0 1))=off:=by
     rw[show Nat.add off (Nat.mul 0 1)=off from rfl];cases Nat.beq r 0<;>rfl
    rw[this]
  unfold Ant;rw[this];rfl
 ·rw[d]
  have:=congrArg (fun z=>z.take n) e5;simp only[List.take_take,eO j]at this;rw[this];unfold Bh;rw[List.map_take]
theorem Bs.drop{l:List Nat}{r:Nat}(s:Bs h (.slice b off l.length r op) b off l)(B:n<l.length):(∀k:EV->R,Ant 1 (.slice b off l.length r op) (some (.int .i64 (n:Int))) none none k=k (.slice b (off+n) (l.length-n) (r-n) op))/\Bs h (.slice b (off+n) (l.length-n) (r-n) op) b (off+n) (l.drop n):=by
 obtain⟨C,m,o,row,e1,e0,e2,e3,e4,e5⟩:=s.Qu;injection e1 with _ _ _ u y;subst u y;have d:(l.drop n).length=l.length-n:=by rw[bW]
 refine⟨fun k=>?_,⟨r-n,op,o,row,by rw[d],by rw[d];omega,e2,e3,by rw[d];omega,?_⟩⟩
 ·have:slc (.slice b off l.length r op) 1 (some (.int .i64 (n:Int))) none none=some (.slice b (off+n) (l.length-n) (r-n) op):=by
   have g:bound (some (.int .i64 (n:Int))) l.length 0=some n:=by
    show Bf (Nat.ble n l.length) (some n) none=_;rw[aS (by omega),Ak]
   have j:bound none r l.length=some l.length:=rfl;unfold slc;simp only[g,j];cases op with
   | true=>
    rw[Ak];cases n with
    | zero=>rfl
    | succ n=>
     rw[show Nat.beq (n+1) 0=false from rfl,Bo,aS (by show n+1+1<=r;omega),Ak,show Nat.mul (n+1) 1=n+1 from bZ _];rfl
   | false=>
    rw[Bo,aS (by show n<=r;omega),Ak,show Nat.mul n 1=n from bZ _];have:Nat.beq r n=false:=by
     cases A:Nat.beq r n with
     | false=>rfl
     | true=>have:=aJ A;omega
    rw[this,Bo];rfl
  unfold Ant;rw[this];rfl
 ·have:=congrArg (fun z=>z.drop n) e5
  rw[d];simp only[List.drop_take,dh]at this;rw[this];unfold Bh;rw[List.map_drop]
theorem Cs.bs{s:EV}{l:List Nat}(r:Cs h s q 5 1 l.length (Bh l))(d:0<l.length):Bs h s q 0 l:=by
 refine⟨l.length,true,_,Bh l,r.slice d,aE _,r.block d,rfl,by rw[Be,bJ];exact aE _,?_⟩;rw[dC,<-Be,cN]
def Bvx:EV->Nat
 | .int _ x=>x.toNat
 | _=>0
noncomputable def Bfs:List Nat:=Bn.map Bvx
theorem Bln:Bn=Bfs.map (Nk .u32):=by kernel_rfl
theorem Buo:Bfs.all (fun n=>Nat.blt n 4294967296)=true:=by kernel_rfl
theorem Bs2:Bfs.length=256:=by kernel_rfl
noncomputable def A7g(r c:Nat):Nat:=(r/256) ^^^ (Bfs[(r%256) ^^^ c]?).getD 0
theorem Bft(g:i<256):Bn[i]? = some (Nk .u32 ((Bfs[i]?).getD 0))/\(Bfs[i]?).getD 0<4294967296:=by
 have d:i<Bfs.length:=by rw[Bs2];exact g
 rw[Bln,bG,aC d];refine⟨rfl,?_⟩;have:=dM.1 Buo _ (av d);exact bI this
theorem Brv {r c:Nat}(j:r<4294967296)(d:c<256):A7g r c<4294967296:=by
 unfold A7g;have g:(r%256) ^^^ c<2^8:=eC (n:=8) (Nat.mod_lt _ (by decide)) d;exact eC (n:=32) (by show r/256<4294967296;omega) (Bft g).2
theorem Bsb{r c:Nat}(u:r<4294967296)(g:c<256):Ok (Ace K Abr (Nk .u32 r) (Nk .u8 c) h) fun v h'=>v=Nk .u32 (A7g r c)/\Ext h h':=by
 unfold Abr;simp only[Ace,Aa];obtain⟨y,j,m,o,_⟩:=nW h (.cells Bn 96);rw[j];rw[show ∀k:EV->R,Ale (bin TT .shr 94) (Nk .u32 r) (.int .u64 8) k=k (Nk .u32 (r/256))from fun k=>Ays (s:=8) (by decide)];have d:(r%256) ^^^ c<256:=eC (n:=8) (Nat.mod_lt _ (by decide)) g;rw[wrap_u8,Bqd (Nat.mod_lt _ (by decide)) g,show ∀k:EV->R,A0z 256 1 (.ptr h.next 0) (Nk .u8 ((r%256) ^^^ c)) k=k (.ptr h.next (0+((r%256) ^^^ c)*1))from fun k=>Air d];rw[C8 o rfl,bJ,bZ,(Bft d).1];simp only[Ia];rw[Bi4 (by omega) (Bft d).2];exact .ret ⟨rfl,m⟩
noncomputable def A13(r:Nat)(l:List Nat):Nat:=l.foldl A7g r
theorem A3f:∀(l:List Nat) (r:Nat),r<4294967296->(∀b∈l,b<256)->A13 r l<4294967296
 | [],r,d,_=>d
 | c::l,r,d,g=>A3f l (A7g r c) (Brv d (g c (aX ..))) fun b hb=>g b (aT _ hb)
theorem Bk3 {T:Nat}{l:List Nat}(u:∀b∈l,b<256)(D:l.length<=5000){r0:Nat}(h0:r0<4294967296):∀(m i:Nat) (h:Ab),l.length-i<m->i<=l.length->HB h->h.get T=some (.cells Bn 96)->Bs h x b off l ->
 Ok (Pf K m (.ptr T 0) (Nk .u32 (A13 r0 (l.take i))) x (I l.length) (I i) h) fun v h'=>v=Nk .u32 (A13 r0 l)/\Ext h h':=by
 intro m;induction m with
 | zero=>intro i h hm;omega
 | succ m A=>
  intro i h hm E hb y s;simp only[Pf,I,Ac,Aa];by_cases g:(i:Int)<l.length
  ·have d:i<l.length:=by omega
   obtain⟨e1,e2⟩:=s.ix d;simp only[g,aB,Aa,Alg,e1,e2,Db y rfl];rw[Ai Wx];simp only[Ia];have o:∀b∈l.take i,b<256:=fun b hb=>u b (b9 hb)
   refine(Bsb (K:=K) (A3f _ _ h0 o) (u _ (av d))).An ?_;rintro _ B ⟨rfl,j⟩;simp only[Anl,I,Ac];rw[Cj];have e:A7g (A13 r0 (l.take i)) l[i]=A13 r0 (l.take (i+1)):=by
    unfold A13;rw[eh,List.foldl_append,aC d];rfl
   rw[e];refine(A (i+1) B (by omega) (by omega) (j.hb hb) (j.at hb y) (s.ext hb j)).mono ?_;rintro v h' ⟨e,C⟩;exact⟨e,j.trans C⟩
  ·have:i=l.length:=by omega
   subst this;simp only[g,aA,Aa,Al0,cN];exact .ret ⟨rfl,Av.refl _⟩
noncomputable def Ga(l:List Nat):Nat:=A13 4294967295 l ^^^ 4294967295
theorem A80 {l:List Nat}(d:∀b∈l,b<256):Ga l<4294967296:=eC (n:=32) (A3f l _ (by decide) d) (by decide)
theorem A9c{l:List Nat}(A:10000<K)(s:Bs h x b off l)(hb:HB h)(g:∀b∈l,b<256)(j:l.length<=5000):Ok (Qi K Abr x h) fun v h'=>v=Nk .u32 (Ga l)/\Ext h h':=by
 unfold Abr;simp only[Qi,Aa];obtain⟨m,o,d,u,_⟩:=nW h (.cells Bn 96);rw[o];have s1:=s.ext hb d;simp only[Akj,s1.F3,dr];refine(Bk3 (K:=K) g j (r0:=4294967295) (by decide) K 0 m (by omega) (cQ _) (d.hb hb) u s1).An ?_;rintro _ h2 ⟨rfl,y⟩;rw[show ∀k:EV->R,Ale (bin TT .xor 94) (Nk .u32 (A13 4294967295 l)) (.int .u32 4294967295) k=k (Nk .u32 (Ga l))from fun k=>Bi4 (b:=4294967295) (A3f l _ (by decide) g) (by decide)];exact .ret ⟨rfl,d.trans y⟩
theorem Cs.cells{s:EV}{l:List Nat}(r:Cs h s q 5 1 l.length (Bh l)):N9 h 1 l.length s=some (Bh l):=by
 rcases dI l.length with h0|hp
 ·have:l = []:=cR.1 h0
  subst this;rcases r with⟨_,_,rfl|⟨b,rfl⟩⟩|⟨y,_⟩
  ·rfl
  ·rfl
  ·exact absurd y (bS _)
 ·exact(r.bs hp).cells
theorem A1y{s:EV}(g:h.get P=some (.cells [s,.bool false] t))(r:Cs h s q 5 1 out.length (Bh out))(hb:HB h)(B:out.length<=60000):
 Ok (Qj K (.ptr P 0) h) fun v h'=>∃y q',v=.tuple [y,I 0]/\Cs h' y q' 5 1 out.length (Bh out)/\Ext h h'/\HB h'/\(0<out.length->h.next<=q'):=by
 simp only[Qj,Aa,C8 g rfl,Ao0];rw[show Cd [(.int .u8 0)] 5 1 0 [] h=some (.slice h.next 0 0 0 false,h.new (.cells [] 5))from rfl,As];have d:Ext h (h.new (.cells [] 5)):=Av.new _ _;have m:=d.at hb g;have j:Cs (h.new (.cells [] 5)) s q 5 1 out.length (Bh out):=r.frame fun y=>d.get _ (hb _ _ (r.block y)) id
 generalize h.new (.cells [] 5)=C at d m j⊢;simp only[Aa,C8 m rfl];refine(Ym (b:=h.next) (e:=5) j.len (by omega) j.cells (by rw[Be,bZ]) 0).An ?_;rintro v h2 ⟨q',u,o,A⟩;refine .ret ⟨v,q',rfl,u,d.trans o,(d.trans o).hb hb,fun y=>?_⟩;have:=A y;have:=d.next
 omega
theorem A33(p:A58 h P t out false)(hb:HB h)(d:out.length<=60000):
 Ok (Qj K (.ptr P 0) h) fun v h'=>∃y q',v=.tuple [y,I 0]/\Cs h' y q' 5 1 out.length (Bh out)/\Ext h h'/\HB h'/\(0<out.length->h.next<=q'):=by
 obtain⟨s,q,g,r,_⟩:=p.Qu;exact A1y g r hb d
theorem Bwb(s:Nat):Zz 4 s = [s%256,s/256%256,s/65536%256,s/16777216%256]:=by
 simp[Zz,dA]
theorem Bt5(a b c d:Int)(h:Ab):Cd [(.int .u8 0)] 5 1 4 [(0,.int .u8 a),(1,.int .u8 b),(2,.int .u8 c),(3,.int .u8 d)] h=some (.slice h.next 0 4 4 false,h.new (.cells [.int .u8 a,.int .u8 b,.int .u8 c,.int .u8 d] 5)):=rfl
theorem Bsl{l:List Nat}(M:10000<K)(s:Bs h x b off l)(hb:HB h)(O:∀b∈l,b<256)(h0:0<l.length)(Q:l.length<=5000):
 Ok (Aby K Abr x h) fun v h'=>∃q',Cs h' v q' 5 1 (l++Zz 4 (Ga l)).length (Bh (l++Zz 4 (Ga l)))/\Ext h h'/\HB h'/\h.next<=q':=by
 unfold Abr;simp only[Aby,Aa];obtain⟨h1,S,g,T,_⟩:=nW h (.cells Bn 96);rw[S];have d:=g.hb hb;rw[Db T rfl,Ai Wx];simp only[Ia];refine(A9c (K:=K) M (s.ext hb g) d O Q).An ?_;rintro _ h2 ⟨rfl,m⟩;have o:=m.hb d;have s2:=(s.ext hb g).ext d m;rw[show Cd [(.int .u8 0)] 5 1 0 [] h2=some (.slice h2.next 0 0 0 false,h2.new (.cells [] 5))from rfl,As];have A:Ext h2 (h2.new (.cells [] 5)):=Av.new _ _;have C:=s2.ext o A;have n3:(h2.new (.cells [] 5)).next=h2.next+1:=rfl
 generalize h2.new (.cells [] 5)=h3 at A C n3⊢;have D:=A.hb o;refine(Ym (b:=h2.next) (e:=5) C.len (by omega) C.cells (by rw[Be,bZ]) 0).An ?_;rintro v h4 ⟨q',J,E,U⟩;have F:=E.hb D;rw[show ∀k:EV->R,Xp .u8 (Nk .u32 (Ga l)) k=k (Nk .u8 (Ga l%256))from fun k=>A3i];rw[show ∀k:EV->R,Ale (bin TT .shr 94) (Nk .u32 (Ga l)) (.int .u64 8) k=k (Nk .u32 (Ga l/256))from fun k=>Ays (s:=8) (by decide)];rw[show ∀k:EV->R,Xp .u8 (Nk .u32 (Ga l/256)) k=k (Nk .u8 (Ga l/256%256))from fun k=>A3i];rw[show ∀k:EV->R,Ale (bin TT .shr 94) (Nk .u32 (Ga l)) (.int .u64 16) k=k (Nk .u32 (Ga l/65536))from fun k=>Ays (s:=16) (by decide)];rw[show ∀k:EV->R,Xp .u8 (Nk .u32 (Ga l/65536)) k=k (Nk .u8 (Ga l/65536%256))from fun k=>A3i];rw[show ∀k:EV->R,Ale (bin TT .shr 94) (Nk .u32 (Ga l)) (.int .u64 24) k=k (Nk .u32 (Ga l/16777216))from fun k=>Ays (s:=24) (by decide)];rw[show ∀k:EV->R,Xp .u8 (Nk .u32 (Ga l/16777216)) k=k (Nk .u8 (Ga l/16777216%256))from fun k=>A3i];rw[Bt5,As];have B:Ext h4 (h4.new (.cells (Bh (Zz 4 (Ga l))) 5)):=Av.new _ _;have e5:Bh (Zz 4 (Ga l)) = [Nk .u8 (Ga l%256),Nk .u8 (Ga l/256%256),Nk .u8 (Ga l/65536%256),Nk .u8 (Ga l/16777216%256)]:=by rw[Bwb];rfl
 rw[e5]at B;have L:Cs (h4.new (.cells [Nk .u8 (Ga l%256),Nk .u8 (Ga l/256%256),Nk .u8 (Ga l/65536%256),Nk .u8 (Ga l/16777216%256)] 5)) v q' 5 1 l.length (Bh l):=J.frame fun y=>B.get _ (F _ _ (J.block y)) id
 have g5:(h4.new (.cells [Nk .u8 (Ga l%256),Nk .u8 (Ga l/256%256),Nk .u8 (Ga l/65536%256),Nk .u8 (Ga l/16777216%256)] 5)).get h4.next=some (.cells [Nk .u8 (Ga l%256),Nk .u8 (Ga l/256%256),Nk .u8 (Ga l/65536%256),Nk .u8 (Ga l/16777216%256)] 5):=Ad _ _
 have V:(h4.new (.cells [Nk .u8 (Ga l%256),Nk .u8 (Ga l/256%256),Nk .u8 (Ga l/65536%256),Nk .u8 (Ga l/16777216%256)] 5)).next=h4.next+1:=rfl
 generalize h4.new (.cells [Nk .u8 (Ga l%256),Nk .u8 (Ga l/256%256),Nk .u8 (Ga l/65536%256),Nk .u8 (Ga l/16777216%256)] 5)=G at B L g5 V⊢;have H:N9 G 1 4 (.slice h4.next 0 4 4 false)=some (Bh (Zz 4 (Ga l))):=by
  show Ab4 G h4.next 0 4=_
  unfold Ab4 Az3;rw[g5,e5];rfl
 obtain⟨W,e6,X,n6,Y⟩:=Aeo L rfl (by decide) (by decide) (by omega) H (by rw[Be,H6]);rw[e6,As];have hq:=U h0;have u:Ext h W:=by
  refine((g.trans m).trans ((A.trans E).trans B)).then Y fun j hj Z=>?_
  have:=g.next;have:=m.next;have:=hj.2;omega
 refine .ret ⟨G.next,?_,u,u.hb hb,?_⟩
 ·rw[Ayq,aH,H6];exact X
 ·have:=g.next;have:=m.next;have:=E.next;omega
theorem But(k:EV->R):Kl Alb (bin TT .neq t) (Nk .u8 a) (Nk .u8 b) k=k (.bool (decide (¬a=b))):=by
 show k (Alb .u8 (Int.ofNat a) (Int.ofNat b))=_;rw[Biw,A3j,Azn];exact congrArg (fun b=>k (.bool b)) (eD.2 (not_congr ⟨Int.ofNat.inj,congrArg _⟩))
noncomputable def A4q(l:List Nat):Bool:=decide (Zz 4 (Ga (l.take (l.length-4)))=l.drop (l.length-4))
def Btl(h:Ab)(l:List Nat)(v:EV)(h':Ab):Prop:=Ext h h'/\HB h'/\((A4q l=false/\v=.tuple [.Ao,I 11])\/(A4q l=true/\∃y q',v=.tuple [y,I 0]/\Cs h' y q' 5 1 (l.take (l.length-4)).length (Bh (l.take (l.length-4)))/\h.next<=q'))
theorem Bj5 {y:EV}{g:Nat}{l:List Nat}(h4:4<l.length)(W:l.length<=5000)(M:∀b∈l,b<256)(h0:Ab):∀(m i:Nat) (h:Ab),4-i<m->i<=4->HB h->Ext h0 h->Bs h x b off l->Bs h y b g (l.drop (l.length-4))->(∀j (hj:j<i),(l.drop (l.length-4))[j]? = some (Ga (l.take (l.length-4))/256^j%256)) ->
 Ok (Pp K m x (I ((l.length-4:Nat):Int)) (Nk .u32 (Ga (l.take (l.length-4))/256^i)) y (I 4) (I i) h) (Btl h0 l):=by
 intro m;have hd:(l.drop (l.length-4)).length=4:=by rw[bW];omega
 have hs:=A80 (l:=l.take (l.length-4)) fun b hb=>M b (b9 hb)
 induction m with
 | zero=>intro i h hm;omega
 | succ m O=>
  intro i h hm X hb A F G hj;simp only[Pp,I,Ac,Aa];by_cases o:(i:Int)<4
  ·have d:i<(l.drop (l.length-4)).length:=by omega
   obtain⟨e1,e2⟩:=G.ix d;simp only[o,aB,Aa,Amu,e1,e2];rw[wrap_u8];rw[But];by_cases B:(l.drop (l.length-4))[i]=Ga (l.take (l.length-4))/256^i%256
   ·simp only[B,aD,aA,Aa,Ame]
    rw[show ∀k:EV->R,Ale (bin TT .shr 94) (Nk .u32 (Ga (l.take (l.length-4))/256^i)) (.int .u64 8) k=k (Nk .u32 (Ga (l.take (l.length-4))/256^i/256))from fun k=>Ays (s:=8) (by decide)];simp only[Amo,I,Ac];rw[Cj,fG,<-eR];refine O (i+1) h (by omega) (by omega) hb A F G fun j Q=>?_
    by_cases D:j=i
    ·subst D;rw[aC d,B]
    ·exact hj j (by omega)
   ·simp only[B,aN,aB,Aa]
    refine .ret ⟨A,hb,.inl ⟨aP fun y=>B ?_,rfl⟩⟩;have:=congrArg (fun z=>z[i]?) y;simp only[Zz]at this;rw[aC d,bG,cM (by omega)]at this;exact(gF this).symm
  ·have:i=4:=by omega
   subst this;simp only[o,aA,Aa,Amn];have S:A4q l=true:=aM (by
    apply dY;intro j;by_cases u:j<4
    ·rw[hj j u];unfold Zz;rw[bG,cM u];rfl
    ·rw[cA (by rw[H6];omega),cA (by omega)])
   rw[show Cd [(.int .u8 0)] 5 1 0 [] h=some (.slice h.next 0 0 0 false,h.new (.cells [] 5))from rfl,As];have C:Ext h (h.new (.cells [] 5)):=Av.new _ _;have H:=F.ext hb C;have n3:(h.new (.cells [] 5)).next=h.next+1:=rfl
   generalize h.new (.cells [] 5)=Y at C H n3⊢;have E:=C.hb hb;obtain⟨w,e3,J⟩:=H.take (n:=l.length-4) (by omega);rw[e3];refine(Ym (b:=h.next) (e:=5) J.len (by rw[cD];omega) J.cells (by rw[Be,bZ]) 0).An ?_;rintro v T ⟨q',U,L,V⟩;refine .ret ⟨A.trans (C.trans L),L.hb E,.inr ⟨S,v,q',rfl,U,?_⟩⟩;have:=V (by rw[cD];omega);have:=A.next
   omega
theorem Bss{r:Nat}{l:List Nat}(A:10000<K)(s:Bs h (.slice b off l.length r op) b off l)(hb:HB h)(u:∀b∈l,b<256)(h4:4<l.length)(B:l.length<=5000):
 Ok (Ac0 K Abr (.slice b off l.length r op) h) (Btl h l):=by
 unfold Abr;simp only[Ac0,Aa];obtain⟨H,C,m,y,_⟩:=nW h (.cells Bn 96);rw[C];have d:=m.hb hb;have s1:=s.ext hb m;have D:=d _ _ y;simp only[Ac];rw[Cj,show(l.length:Int)-4=((l.length-4:Nat):Int) by omega,show decide (((l.length-4:Nat):Int)<0)=false from aP (by omega)];simp only[Aa,All,Cv D,Aw,Db y rfl,Ai Wx];obtain⟨w,e3,E⟩:=s1.take (n:=l.length-4) (by omega);rw[e3];refine Ok.bE (A9c (K:=K) A E.lift (D4 d) (fun b hb=>u b (b9 hb)) (by rw[cD];omega)) (fun _ _ p=>p.2) ?_;rintro _ h2 F ⟨rfl,_⟩ sm g;have o:=g.hb d;obtain⟨e5,G⟩:=(s1.ext d g).drop (n:=l.length-4) (by omega);rw[e5];simp only[Aa];have:=Bj5 (K:=K) (x:=.slice b off l.length r op) h4 B u h K 0 F (by omega) (by decide) o (m.trans g) (s1.ext d g) G (fun j hj=>absurd hj (br _));rw[Nat.pow_zero,Nat.div_one]at this;rw[show l.length-(l.length-4)=4 by omega]at this⊢;exact this
structure Rd(h:Ab)(R q off:Nat)(l:List Nat):Prop where
 Qu:∃s,h.get R=some (.cells [s,.bool false] 231)/\lenOf s=some l.length/\(0<l.length->s=.slice q off l.length l.length true/\Bs h s q off l)
 ne:q<R
theorem Rd.ext{R:Nat}{l:List Nat}(d:Rd h R q off l)(hb:HB h)(c:Ext h h'):Rd h' R q off l:=by
 obtain⟨s,g,e,f⟩:=d.Qu;exact⟨⟨s,c.at hb g,e,fun y=>⟨(f y).1,(f y).2.ext hb c⟩⟩,d.ne⟩
theorem Az7{l:List Nat}(s:Bs h x b off l)(hb:HB h)(h0:0<l.length)(C:l.length<=5000):
 Ok (Aol K x h) fun v h'=>∃R q,v=.ptr R 0/\Rd h' R q 0 l/\Ext h h'/\HB h'/\h.next<=q:=by
 simp only[Aol,dr];rw[show Cd [(.int .u8 0)] 5 1 0 [] h=some (.slice h.next 0 0 0 false,h.new (.cells [] 5))from rfl,As];have g:Ext h (h.new (.cells [] 5)):=Av.new _ _;have s1:=s.ext hb g;generalize h.new (.cells [] 5)=D at g s1⊢;have j:=g.hb hb;refine(Ym (b:=h.next) (e:=5) s1.len (by omega) s1.cells (by rw[Be,bZ]) 0).An ?_;rintro v h2 ⟨q',m,y,A⟩;have d:=y.hb j;have o:=m.slice h0;subst o;rw[Ay (l:=[.slice q' 0 l.length l.length true,.bool false]) rfl];simp only[Aa];have u:Ext h2 (h2.new (.cells [.slice q' 0 l.length l.length true,.bool false] 231)):=Av.new _ _;have B:=(m.bs h0).ext d u;refine .ret ⟨h2.next,q',rfl,⟨⟨_,Ad _ _,rfl,fun _=>⟨rfl,B⟩⟩,d _ _ (m.block h0)⟩,g.trans (y.trans u),u.hb d,?_⟩;have:=A h0;have:=g.next
 omega
theorem Beu{R:Nat}{l:List Nat}(d:Rd h R q off l)(hb:HB h)(h0:0<n)(A:n<=l.length):
 Ok (L8 K (.ptr R 0) (I n) h) fun v h'=>Bs h' v q off (l.take n)/\Rd h' R q (off+n) (l.drop n)/\Av (fun i=>i=R) h h'/\HB h':=by
 obtain⟨s,g,e,f⟩:=d.Qu;obtain⟨rfl,s1⟩:=f (by omega);have u:=hb _ _ g;have B:R≠q:=by have:=d.ne;omega
 simp only[L8,Aa,C8 g rfl,Ac,I];rw[show decide ((n:Int)<0)=false from aP (by omega)];simp only[Aa,Agp,Ac,C8 g rfl];rw[show decide ((l.length:Int)<(n:Int))=false from aP (by omega)];simp only[Aa,Afk,Agc,C8 g rfl];have e1:∀k:EV->Go.Ev.R,Ant 1 (.slice q off l.length l.length true) none (some (.int .i64 (n:Int))) (some (.int .i64 (n:Int))) k=k (.slice q off n n false):=fun k=>by
  have:slc (.slice q off l.length l.length true) 1 none (some (.int .i64 (n:Int))) (some (.int .i64 (n:Int)))=some (.slice q off n n false):=by
   have b1:bound (some (.int .i64 (n:Int))) l.length 0=some n:=by
    show Bf (Nat.ble n l.length) (some n) none=_;rw[aS A,Ak]
   have b2:bound (some (.int .i64 (n:Int))) n 0=some n:=by
    show Bf (Nat.ble n n) (some n) none=_;rw[aS (aE _),Ak]
   unfold slc;simp only[b1,b2];show some (EV.slice q (Bf (Nat.beq n 0) off (Nat.add off (Nat.mul 0 1))) n n false)=_;rw[show Nat.add off (Nat.mul 0 1)=off from rfl];cases Nat.beq n 0<;>rfl
  unfold Ant;rw[this];rfl
 rw[e1];obtain⟨L,G,o,row,f1,f0,f2,f3,f4,f5⟩:=s1.Qu;have j:(l.take n).length=n:=by rw[cD,eO A]
 have m:(l.drop n).length=l.length-n:=bW;have F:Bs h (.slice q off n n false) q off (l.take n):=by
  refine⟨n,false,o,row,by rw[j],by rw[j];exact aE _,f2,f3,by rw[j];omega,?_⟩;rw[j];have:=congrArg (fun z=>z.take n) f5;simp only[List.take_take,eO A]at this;rw[this];unfold Bh;rw[List.map_take]
 have put:∀w:EV,(h.put R (.cells [w,.bool false] 231)).get q=h.get q:=fun w=>Ag _ B
 rcases cZ n l.length with C|H
 ·obtain⟨e2,s2⟩:=s1.drop C
  rw[e2];refine Ok.st1 g rfl rfl (by show 0<2;decide) ?_;refine .ret ⟨F.frame (put _),⟨⟨_,Af _ _ _,by rw[m];rfl,fun _=>⟨by rw[m],s2.frame (put _)⟩⟩,d.ne⟩,(Av.refl (S:=fun i=>i=R) h).Ar (.inl rfl) u _,hb.put u _⟩
 ·have D:n=l.length:=by omega
  subst D;have e2:∀k:EV->Go.Ev.R,Ant 1 (.slice q off l.length l.length true) (some (.int .i64 (l.length:Int))) none none k=k (.tail q (off+l.length) off):=fun k=>by
   have:slc (.slice q off l.length l.length true) 1 (some (.int .i64 (l.length:Int))) none none=some (.tail q (off+l.length) off):=by
    have b1:bound (some (.int .i64 (l.length:Int))) l.length 0=some l.length:=by
     show Bf (Nat.ble l.length l.length) (some l.length) none=_;rw[aS (aE _),Ak]
    have b2:bound none l.length l.length=some l.length:=rfl;unfold slc;simp only[b1,b2];rw[Ak];have z1:Nat.beq l.length 0=false:=by
     cases E:Nat.beq l.length 0 with
     | false=>rfl
     | true=>have:=aJ E;omega
    have J:Nat.ble (Nat.succ l.length) l.length=false:=by
     cases E:Nat.ble (Nat.succ l.length) l.length with
     | false=>rfl
     | true=>have:=bI E;omega
    rw[z1,Bo,J,Bo,cO,Ak,Ak,show Nat.mul l.length 1=l.length from bZ _];rfl
   unfold Ant;rw[this];rfl
  rw[e2];refine Ok.st1 g rfl rfl (by show 0<2;decide) ?_;refine .ret ⟨F.frame (put _),⟨⟨_,Af _ _ _,by rw[m,gK];rfl,fun y=>by rw[m,gK]at y;exact absurd y (bS _)⟩,d.ne⟩,(Av.refl (S:=fun i=>i=R) h).Ar (.inl rfl) u _,hb.put u _⟩
def leV:List Nat->Nat
 | []=>0
 | b::r=>b+256*leV r
theorem A8t:∀(a:List Nat) (b:Nat),leV (a++[b])=leV a+256^a.length*b
 | [],b=>by simp[leV]
 | x::a,b=>by
  have:=A8t a b;simp only[List.cons_append,leV,this,bH,eR];rw[Nat.mul_add,<-Nat.add_assoc,gC (256^a.length) 256,Nat.mul_assoc]
theorem Bf5:∀(a:List Nat),(∀b∈a,b<256)->leV a<256^a.length
 | [],_=>by simp[leV]
 | x::a,h=>by
  have d:=h x (aX ..);have h2:=Bf5 a fun b hb=>h b (aT _ hb)
  simp only[leV,bH,eR];omega
theorem wrap_u64(a:Nat):Dz .u64 (Int.ofNat a)=Int.ofNat (a%18446744073709551616):=by
 rw[Oc];rfl
theorem Bsr {s:Nat}(hs:s<=64)(hb:a*2^s<9223372036854775808){k:EV->Go.Ev.R}:Ale (bin TT .shl t) (.int .i64 (Int.ofNat a)) (.int .u64 (Int.ofNat s)) k=k (Nk .i64 (a*2^s)):=by
 show k (.int .i64 (Dz .i64 (Int.mul (.ofNat a) (.ofNat (Nat.pow 2 (Bf (Nat.ble s 64) s 64))))))=_;rw[aS hs,Ak];have:Int.mul (.ofNat a) (.ofNat (Nat.pow 2 s))=((a*2^s:Nat):Int):=rfl;rw[this,Cj];rfl
theorem Bt3(h:a||| b<9223372036854775808){k:EV->Go.Ev.R}:Ale (bin TT .or t) (.int .i64 (Int.ofNat a)) (.int .i64 (Int.ofNat b)) k=k (Nk .i64 (a||| b)):=by
 show k (.int .i64 (Dz .i64 (.ofNat (Nat.lor a b))))=_;have:Int.ofNat (Nat.lor a b)=((a||| b:Nat):Int):=rfl;rw[this,Cj];rfl
theorem Bm5{l:List Nat}(A:∀b∈l,b<256)(E:l.length<=7):∀(m i:Nat) (h:Ab),l.length-i<m->i<=l.length->Bs h x b off l ->
 Nd K m (Nk .i64 (leV (l.take i))) x (I l.length) (I i) h=some (Nk .i64 (leV l),h):=by
 intro m;induction m with
 | zero=>intro i h hm;omega
 | succ m C=>
  intro i h hm D s;simp only[Nd,I,Ac,Aa];by_cases j:(i:Int)<l.length
  ·have d:i<l.length:=by omega
   obtain⟨e1,e2⟩:=s.ix d;have hb:=A _ (av d);simp only[j,aB,Aa,Ahu,e1,e2,Ac];have hp:(256:Nat)^i=2^(8*i):=by rw[Nat.pow_mul]
   have g:(256:Nat)^i<=256^6:=fR (by decide) (by omega);have g:(256:Nat)^i<=281474976710656:=g;have hmul:l[i]*256^i<=255*281474976710656:=gI (by omega) g;rw[show Dz .i64 (Int.ofNat l[i])=Int.ofNat l[i]from Cj (by show _<=((l[i]:Nat):Int);omega) (by show((l[i]:Nat):Int)<=_;omega)];rw[show(8:Int)*(i:Int)=((8*i:Nat):Int) by omega,Cj];rw[show Dz .u64 ((8*i:Nat):Int)=Int.ofNat (8*i)from by have:=wrap_u64 (8*i);rw[fU (by omega)]at this;exact this];rw[Bsr (by omega) (by rw[<-hp];omega)];have B:(l.take i).length=i:=by rw[cD,eO D]
   have o:leV (l.take i)<2^(8*i):=by
    have:=Bf5 (l.take i) fun b hb=>A b (b9 hb)
    rw[B,hp]at this;exact this
   have u:leV (l.take i)||| l[i]*2^(8*i)=leV (l.take (i+1)):=by
    rw[eh,aC d];show _=leV (l.take i++[l[i]]);rw[A8t,B,Nat.or_comm,gC l[i],<-Nat.two_pow_add_eq_or_of_lt o,hp,Nat.add_comm]
   have y:leV (l.take (i+1))<9223372036854775808:=by
    have:=Bf5 (l.take (i+1)) fun b hb=>A b (b9 hb)
    have h2:(256:Nat)^(l.take (i+1)).length<=256^7:=fR (by decide) (by rw[cD];omega);have F:(256:Nat)^7=72057594037927936:=by decide
    omega
   rw[Bt3 (by rw[u];exact y),u];simp only[Aig,I,Ac];rw[Cj];exact C (i+1) h (by omega) (by omega) s
  ·have:i=l.length:=by omega
   subst this;simp only[j,aA,Aa,Ah2,cN]
theorem Akh{R w:Nat}{l:List Nat}(d:Rd h R q off l)(hb:HB h)(u:1000<K)(m:1<=w)(y:w<=7)(j:w<=l.length)(o:∀b∈l,b<256):
 Ok (K6 K (.ptr R 0) (I w) h) fun v h'=>v=Nk .i64 (leV (l.take w))/\Rd h' R q (off+w) (l.drop w)/\Av (fun i=>i=R) h h'/\HB h':=by
 simp only[K6,dr];rw[Agy,aM ⟨by omega,by omega⟩];simp only[Aa,Ain];refine(Beu (K:=K) d hb m j).An ?_;rintro v h2 ⟨s,d2,c2,g⟩;rw[s.F3];have A:(l.take w).length=w:=by rw[cD,eO j]
 have:=Bm5 (K:=K) (l:=l.take w) (fun b hb=>o b (b9 hb)) (by omega) K 0 h2 (by omega) (cQ _) s;rw[show EV.int .i64 0=Nk .i64 (leV ((l.take w).take 0))from rfl];exact⟨_,_,this,rfl,d2,c2,g⟩
theorem Bec{R:Nat}{l:List Nat}(d:Rd h R q off l)(hb:HB h)(h0:0<n)(g:n<=l.length):
 Ok (N5 K (.ptr R 0) (I n) h) fun v h'=>Bs h' v q off (l.take n)/\Rd h' R q (off+n) (l.drop n)/\Av (fun i=>i=R) h h'/\HB h':=by
 simp only[N5,dr];refine(Beu (K:=K) d hb h0 g).An ?_;intro v h2 p;exact .ret p
theorem Brp{R:Nat}(d:Rd h R q off []):V8 K (.ptr R 0) h=some (I 0,h):=by
 obtain⟨s,g,e,f⟩:=d.Qu;simp only[V8,Aa,C8 g rfl,Ac];have:∀k:EV->Go.Ev.R,F3 s k=k (I 0):=fun k=>by unfold F3;rw[e];rfl
 rw[this];simp only[I,Ac];rfl
structure Fr where
 kind:Int
 Aj:Int
 off:Int
 Ap:Int
 seq:Int
 body:List Nat
def Fr.cells(f:Fr):List EV:=[I f.kind,I f.Aj,I f.off,I f.Ap,I f.seq]++Bh f.body
structure Fr.Wf(f:Fr):Prop where
 len:f.body.length=44
 u8:∀b∈f.body,b<256
def frB(f:Fr):Bool:=wi f.kind 1 5&&(wi f.Aj 0 65535&&(wi f.off 0 65535&&(wi f.Ap 1 4294967295&&wi f.seq 0 281474976710655)))
theorem Ul(n a b:Int)(h:Ab):Ps K (.int .i64 n) (.int .i64 a) (.int .i64 b) h=some (.bool (wi n a b),h):=by
 simp only[Ps,Ac,Aa];by_cases d:a<=n
 ·simp only[d,aB,Aa,Ac,Agw,wi,bF]
 ·simp only[d,aA,Aa,Agw,wi,bA]
theorem Fr.Br {f:Fr}(w:f.Wf):f.cells.length=49:=by
 unfold Fr.cells;rw[aH,Be,w.len];rfl
theorem Ajh(f:Fr):Ok (Ma K (.agg f.cells) h) fun v h'=>v=.bool (frB f)/\Ext h h':=by
 simp only[Ma,Aa];obtain⟨y,j,d,g,_⟩:=nW h (.cells f.cells 167);rw[j];have l0:f.cells[0]? = some (I f.kind):=rfl;have l1:f.cells[1]? = some (I f.Aj):=rfl;have m:f.cells[2]? = some (I f.off):=rfl;have o:f.cells[3]? = some (I f.Ap):=rfl;have u:f.cells[4]? = some (I f.seq):=rfl;simp only[C8 g rfl,Aa,l0,I,Ul,Ac];unfold frB;cases wi f.kind 1 5 with
 | false=>simp only[Aa,Yd,Pr,Lu,I5,Ac];exact .ret ⟨rfl,d⟩
 | true=>
 simp only[Aa,C8 g rfl,l1,I,Ul,Ac,Yd];cases wi f.Aj 0 65535 with
 | false=>simp only[Aa,Pr,Lu,I5,Ac];exact .ret ⟨rfl,d⟩
 | true=>
 simp only[Aa,C8 g rfl,m,I,Ul,Ac,Pr];cases wi f.off 0 65535 with
 | false=>simp only[Aa,Lu,I5,Ac];exact .ret ⟨rfl,d⟩
 | true=>
 simp only[Aa,C8 g rfl,o,I,Ul,Ac,Lu];cases wi f.Ap 1 4294967295 with
 | false=>simp only[Aa,I5,Ac];exact .ret ⟨rfl,d⟩
 | true=>
 simp only[Aa,C8 g rfl,u,I,Ul,Ac,I5];exact .ret ⟨by simp only[bF],d⟩
def A0j(f:Fr):List Nat:=Zz 1 f.kind.toNat++Zz 1 1++Zz 2 f.Aj.toNat++Zz 2 f.off.toNat++Zz 4 f.Ap.toNat++Zz 6 f.seq.toNat++f.body
noncomputable def Vc(f:Fr):List Nat:=A0j f++Zz 4 (Ga (A0j f))
theorem Aev(w a:Nat):∀b∈Zz w a,b<256:=fun b hb=>by
 unfold Zz at hb;obtain⟨i,_,rfl⟩:=bc.1 hb;exact Nat.mod_lt _ (by decide)
theorem Aop {f:Fr}(w:f.Wf):(A0j f).length=60:=by
 unfold A0j;simp only[aH,H6,w.len]
theorem Atw {f:Fr}(w:f.Wf):(Vc f).length=64:=by
 unfold Vc;rw[aH,Aop w,H6]
theorem Bih {f:Fr}(w:f.Wf):∀b∈A0j f,b<256:=fun b hb=>by
 unfold A0j at hb;simp only[bO]at hb;rcases hb with(((((hb|hb)|hb)|hb)|hb)|hb)|hb
 ·exact Aev _ _ b hb
 ·exact Aev _ _ b hb
 ·exact Aev _ _ b hb
 ·exact Aev _ _ b hb
 ·exact Aev _ _ b hb
 ·exact Aev _ _ b hb
 ·exact w.u8 b hb
theorem Bja {f:Fr}(w:f.Wf):∀b∈Vc f,b<256:=fun b hb=>by
 unfold Vc at hb;rcases bO.1 hb with hb|hb
 ·exact Bih w b hb
 ·exact Aev _ _ b hb
theorem Ac6 {w:Nat}{b:Int}(h0:0<=v)(hb:v<=b)(hw:b<(256^w:Nat)):fits w v=true:=aM ⟨h0,by omega⟩
theorem Arp{f:Fr}(w:f.Wf)(hr:frB f=true)(hb:HB h)(hK:10000<K):
 Ok (Acs K Abr (.agg f.cells) h) fun v h'=>v=.tuple [.agg (Bh (Vc f)),I 0]/\Ext h h':=by
 have Z:=hr;simp only[frB,aR]at Z;obtain⟨r1,r2,r3,r4,r5⟩:=Z;obtain⟨a1,b1⟩:=Fl.1 r1;obtain⟨a2,b2⟩:=Fl.1 r2;obtain⟨a3,b3⟩:=Fl.1 r3;obtain⟨a4,b4⟩:=Fl.1 r4;obtain⟨a5,b5⟩:=Fl.1 r5;have l0:f.cells[0]? = some (I f.kind):=rfl;have l1:f.cells[1]? = some (I f.Aj):=rfl;have l2:f.cells[2]? = some (I f.off):=rfl;have l3:f.cells[3]? = some (I f.Ap):=rfl;have l4:f.cells[4]? = some (I f.seq):=rfl;have aa:=Fr.Br w;unfold Abr;simp only[Acs,Aa];have x1:Ext h (((h.new (.cells Bn 96)).new (.cells f.cells 167)).new (.cells Z2 30)):=((Av.new _ _).Ds _).Ds _;have m:(((h.new (.cells Bn 96)).new (.cells f.cells 167)).new (.cells Z2 30)).get h.next=some (.cells Bn 96):=by
  rw[Az _ (by show h.next<h.next+1+1;omega),Az _ (aL _)];exact Ad _ _
 have d:(((h.new (.cells Bn 96)).new (.cells f.cells 167)).new (.cells Z2 30)).get (h.next+1)=some (.cells f.cells 167):=by
  rw[Az _ (by show h.next+1<h.next+1+1;omega)];exact Ad _ _
 have g4:(((h.new (.cells Bn 96)).new (.cells f.cells 167)).new (.cells Z2 30)).get (h.next+2)=some (.cells Z2 30):=Ad _ _;have n1:(((h.new (.cells Bn 96)).new (.cells f.cells 167)).new (.cells Z2 30)).next=h.next+3:=rfl
 rw[show(h.new (.cells Bn 96)).next=h.next+1 from rfl,show((h.new (.cells Bn 96)).new (.cells f.cells 167)).next=h.next+2 from rfl,show List.replicate 64 (EV.int .u8 0)=Z2 from rfl];generalize ((h.new (.cells Bn 96)).new (.cells f.cells 167)).new (.cells Z2 30)=h1 at x1 m d g4 n1⊢;have F:=x1.hb hb;rw[Db d rfl,Ai aa];simp only[Ia];refine(Ajh (K:=K) f).An ?_;rintro _ h2 ⟨rfl,W⟩;rw[hr];simp only[Aa,Aq5];have G:=W.hb F;have ai:=x1.trans W;have m:=W.at F m;have d:=W.at F d;have g4:=W.at F g4;have n2:h.next+3<=h2.next:=by have:=W.next;omega
 have p0:A58 (h2.new (.cells [.Ao,.bool false] 233)) h2.next 233 [] false:=⟨.Ao,0,Ad _ _,.nil _ _ _ _,fun y=>absurd y (bS _)⟩
 have X:Ext h2 (h2.new (.cells [.Ao,.bool false] 233)):=Av.new _ _;have m:=X.at G m;have d:=X.at G d;have g4:=X.at G g4;have B:=X.hb G;have ab:=ai.trans X;generalize h2.new (.cells [.Ao,.bool false] 233)=h3 at p0 X m d g4 B ab⊢;generalize hP:h2.next=P at p0 n2⊢
 have up:∀{Y hc:Ab},Ext h Y->Av (fun i=>P<=i) Y hc->Ext h hc:=fun x c=>x.then c fun j hj hl=>by
  have hj:P<=j:=hj;omega
 have u:∀{Y hc:Ab} {i:Nat} {o:Ec},Av (fun i=>P<=i) Y hc->HB Y->Y.get i=some o->i<P->hc.get i=some o:=fun c hb g hi=>c.at hb g (by omega)
 simp only[C8 d rfl,l0];simp only[Ia];refine(Oa (K:=K) (w:=1) (by omega) p0 B (by simp) (by decide) (by decide) (v:=f.kind) (by omega)).An ?_;rintro _ h5 ⟨p,c,H⟩;rw[Ac6 (b:=5) (by omega) b1 (by decide),aG rfl]at p;have x5:=up ab c;have m:=u c B m (by omega);have d:=u c B d (by omega);have g4:=u c B g4 (by omega);refine(Oa (K:=K) (w:=1) (by omega) p H (by simp[H6]) (by decide) (by decide) (v:=1) (by omega)).An ?_;rintro _ h6 ⟨p,c,J⟩;rw[Ac6 (b:=1) (by omega) (cb _) (by decide),aG rfl]at p;have x6:=up x5 c;have m:=u c H m (by omega);have d:=u c H d (by omega);have g4:=u c H g4 (by omega);simp only[Aa,C8 d rfl,l1];refine(Oa (K:=K) (w:=2) (by omega) p J (by simp[H6]) (by decide) (by decide) (v:=f.Aj) (by omega)).An ?_;rintro _ h7 ⟨p,c,L⟩;rw[Ac6 (b:=65535) a2 b2 (by decide),aG rfl]at p;have x7:=up x6 c;have m:=u c J m (by omega);have d:=u c J d (by omega);have g4:=u c J g4 (by omega);simp only[Aa,C8 d rfl,l2];refine(Oa (K:=K) (w:=2) (by omega) p L (by simp[H6]) (by decide) (by decide) (v:=f.off) (by omega)).An ?_;rintro _ h8 ⟨p,c,M⟩;rw[Ac6 (b:=65535) a3 b3 (by decide),aG rfl]at p;have x8:=up x7 c;have m:=u c L m (by omega);have d:=u c L d (by omega);have g4:=u c L g4 (by omega);simp only[Aa,C8 d rfl,l3];refine(Oa (K:=K) (w:=4) (by omega) p M (by simp[H6]) (by decide) (by decide) (v:=f.Ap) (by omega)).An ?_;rintro _ h9 ⟨p,c,O⟩;rw[Ac6 (b:=4294967295) (by omega) b4 (by decide),aG rfl]at p;have x9:=up x8 c;have m:=u c M m (by omega);have d:=u c M d (by omega);have g4:=u c M g4 (by omega);simp only[Aa,C8 d rfl,l4];refine(Oa (K:=K) (w:=6) (by omega) p O (by simp[H6]) (by decide) (by decide) (v:=f.seq) (by omega)).An ?_;rintro _ ae ⟨p,c,C⟩;rw[Ac6 (b:=281474976710655) a5 b5 (by decide),aG rfl]at p;have aj:=up x9 c;have m:=u c O m (by omega);have d:=u c O d (by omega);have g4:=u c O g4 (by omega)
 try simp only[Aa]
 rw[show ∀k:EV->R,Uk 44 1 (.ptr (h.next+1) 5) none none none k=k (.slice (h.next+1) 5 44 44 false)from fun k=>rfl];have al:N9 ae 1 44 (.slice (h.next+1) 5 44 44 false)=some (Bh f.body):=by
  show Ab4 ae (h.next+1) 5 44=_;unfold Ab4 Az3;rw[d];show Oy f.cells 5 44=_;rw[Fw (by rw[aa];decide)];show some (List.take 44 (Bh f.body))=_;rw[bR (by rw[Be,w.len];decide)]
 refine(Ayz (K:=K) (n:=44) p C (by simp[H6]) rfl (by decide) (by decide) al w.len).An ?_;rintro _ b7 ⟨p,c,D⟩;have ao:=up aj c;have m:=u c C m (by omega);have g4:=u c C g4 (by omega);have ep:([]++Zz 1 f.kind.toNat++Zz 1 (1:Int).toNat++Zz 2 f.Aj.toNat++Zz 2 f.off.toNat++Zz 4 f.Ap.toNat++Zz 6 f.seq.toNat++f.body)=A0j f:=by
  unfold A0j;rw[dS];rfl
 have af:∀b:Bool,(b||!true)=b:=by decide
 rw[ep]at p;simp only[af]at p;refine(A33 (K:=K) p D (by rw[Aop w];decide)).An ?_;rintro _ b8 ⟨y,q',rfl,ry,E,S,lq⟩;have m:=E.at D m;have g4:=E.at D g4;simp only[Aa,I,Ac];simp only[aD,aA,Aa,Art];rw[Db m rfl,Ai Wx];simp only[Ia];have T:0<(A0j f).length:=by rw[Aop w];decide
 refine(Bsl (K:=K) hK (ry.bs T) S (Bih w) T (by rw[Aop w];decide)).An ?_;rintro v V ⟨q2,Q,U,ag,cc⟩;have Q:Cs V v q2 5 1 (Vc f).length (Bh (Vc f)):=Q;have g4:=U.at S g4;have A:=Atw w;have au:=Q.slice (by rw[A];decide);subst au;rw[show ∀k:EV->R,A3t 64 (.slice q2 0 (Vc f).length (Vc f).length true) k=k (.ptr q2 0)from fun k=>by rw[A];rfl];rw[Db (Q.block (by rw[A];decide)) rfl,Ai (by rw[Be,A])];simp only[Ia];refine Ok.st (Bh (Vc f)) g4 rfl (by show Gk (Bh (Vc f))=64;rw[Bc,Be,A]) (Bm (by rw[Nc];show 64=(Bh (Vc f)).length;rw[Be,A])) ?_;have aw:(V.put (h.next+2) (.cells (Bh (Vc f)) 30)).get (h.next+2)=some (.cells (Bh (Vc f)) 30):=Af _ _ _;rw[Gg aw A26.1 A26.2 (by rw[Be,A])];have xx:Ext h V:=ao.trans (E.trans U);exact .ret ⟨rfl,xx.Ar (.inr (by omega)) (ag _ _ g4) _⟩
variable {f:Fr}
theorem Ok.A4a{o:Nat}{l:List EV}{v:EV}{d:Ab->R}{Q:EV->Ab->Prop}(g:h.get i=some (.cells l t))(hb:HB h)(hp:v.plain=true)(m:v.cells = [v])(u:o<l.length)
 (y:∀h',h'.get i=some (.cells (l.set o v) t)->Av (fun j=>j=i) h h'->HB h'->Ok (d h') Q):Ok (stE 1 (.ptr i o) v h d) Q:=by
 have lt:=hb _ _ g;exact Ok.st1 g hp m u (y _ (Af _ _ _) ((Av.refl (S:=fun j=>j=i) h).Ar (.inl rfl) lt _) (hb.put lt _))
theorem Ao1:∀(hd By new:List EV),By.length=new.length->Gw (hd++By) hd.length new=some (hd++new)
 | [],By,new,h=>by
  have:=Bm (l:=By) (vs:=new) h;rw[Aab]at this;exact this
 | a::hd,By,new,h=>by
  have d:=Ao1 hd By new h;show Bf (Nat.beq (hd.length+1) 0) _ (match Gw (hd++By) hd.length new with|some x=>some (a::x)|none=>none)=_;rw[show Nat.beq (hd.length+1) 0=false from rfl,Bo,d];rfl
theorem A87{r:Nat}{t:TypeId}{hd By new:List EV}{y:EV}(g:h.get i=some (.cells (hd++By) t))(m:lenOf y=some n)(o:0<n)(j:N9 h 1 n y=some new)(u:new.length=n)(A:By.length=n):
 builtin TT .copy #[173,173] [.slice i hd.length n r op,y] h=some (I n,h.put i (.cells (hd++new) t)):=by
 have hu:TT.Za 173=some (.slice 5):=by kernel_rfl
 have hs:TT.size 5=some 1:=by kernel_rfl
 have hb:Nat.ble n n=true:=aS (aE _);have h0:Nat.beq n 0=false:=by cases n with|zero=>omega|succ n=>rfl
 have hw:Oq h i hd.length new=some (h.put i (.cells (hd++new) t)):=by
  unfold Oq;rw[g];simp only;rw[Ao1 hd By new (by omega)]
 rw[Au3]at j;have d:lenOf (.slice i hd.length n r op)=some n:=rfl;unfold builtin;simp only[hu,hs,d,m,hb,Ak,h0,Bo,j,hw];rfl
theorem Rd.chg{R:Nat}{l:List Nat}{S:Nat->Prop}(d:Rd h R q off l)(hb:HB h)(c:Av S h h')(j:¬S q)(m:¬S R):Rd h' R q off l:=by
 obtain⟨s,g,e,f⟩:=d.Qu;exact⟨⟨s,c.at hb g m,e,fun y=>⟨(f y).1,(f y).2.frame (c.get _ ((f y).2.lt hb) j)⟩⟩,d.ne⟩
def Fr.zero:Fr:=⟨0,0,0,0,0,List.replicate 44 0⟩
theorem Fr.Js:List.replicate 5 (EV.int .i64 0)++List.replicate 44 (EV.int .u8 0)=Fr.zero.cells:=by kernel_rfl
def Ae4(p:List Nat):Fr:=⟨leV (p.take 1),leV (((p.drop 1).drop 1).take 2),leV ((((p.drop 1).drop 1).drop 2).take 2),leV (((((p.drop 1).drop 1).drop 2).drop 2).take 4),leV ((((((p.drop 1).drop 1).drop 2).drop 2).drop 4).take 6),(((((((p.drop 1).drop 1).drop 2).drop 2).drop 4).drop 6).take 44)⟩
noncomputable def Ab6(s:List Nat):Fr × Int:=
 if A4q s=false then(Fr.zero,11)else
 if leV (((s.take 60).drop 1).take 1)=1/\frB (Ae4 (s.take 60))=true then(Ae4 (s.take 60),0)else(Fr.zero,10)
theorem A7w:TT.size 167=some 49/\TT.agg 167=some true:=⟨by kernel_rfl,by kernel_rfl⟩
theorem A4s(hp:p.length=60)(hu:∀b∈p,b<256):(Ae4 p).Wf:=by
 refine⟨?_,fun b hb=>hu b ?_⟩
 ·simp only[Ae4,cD,bW,hp];decide
 ·simp only[Ae4]at hb
  exact aU (aU (aU (aU (aU (aU (b9 hb))))))
theorem Fr.Ie:Fr.zero.Wf:=⟨by simp[Fr.zero],fun b hb=>by rw[bP hb];decide⟩
theorem Bst {s:List Nat}(d:s.length=64)(hu:∀b∈s,b<256):(Ab6 s).1.Wf:=by
 unfold Ab6;split
 ·exact Fr.Ie
 ·split
  ·exact A4s (by rw[cD,d];decide) fun b hb=>hu b (b9 hb)
  ·exact Fr.Ie
theorem A2v{s:List Nat}(hl:s.length=64)(hu:∀b∈s,b<256)(hb:HB h)(hK:10000<K):
 Ok (Ai0 K Abr (.agg (Bh s)) h) fun v h'=>v=.tuple [.agg (Ab6 s).1.cells,I (Ab6 s).2]/\Ext h h':=by
 unfold Abr;simp only[Ai0,Aa];rw[Fr.Js];have x1:Ext h (((h.new (.cells Bn 96)).new (.cells (Bh s) 30)).new (.cells Fr.zero.cells 167)):=((Av.new _ _).Ds _).Ds _;have g2:(((h.new (.cells Bn 96)).new (.cells (Bh s) 30)).new (.cells Fr.zero.cells 167)).get h.next=some (.cells Bn 96):=by
  rw[Az _ (by show h.next<h.next+1+1;omega),Az _ (aL _)];exact Ad _ _
 have g3:(((h.new (.cells Bn 96)).new (.cells (Bh s) 30)).new (.cells Fr.zero.cells 167)).get (h.next+1)=some (.cells (Bh s) 30):=by
  rw[Az _ (by show h.next+1<h.next+1+1;omega)];exact Ad _ _
 have g4:(((h.new (.cells Bn 96)).new (.cells (Bh s) 30)).new (.cells Fr.zero.cells 167)).get (h.next+2)=some (.cells Fr.zero.cells 167):=Ad _ _;have n1:(((h.new (.cells Bn 96)).new (.cells (Bh s) 30)).new (.cells Fr.zero.cells 167)).next=h.next+3:=rfl
 rw[show(h.new (.cells Bn 96)).next=h.next+1 from rfl,show((h.new (.cells Bn 96)).new (.cells (Bh s) 30)).next=h.next+2 from rfl];generalize ((h.new (.cells Bn 96)).new (.cells (Bh s) 30)).new (.cells Fr.zero.cells 167)=h1 at x1 g2 g3 g4 n1⊢;have ah:=x1.hb hb;have c5:=ah _ _ g2;have zl:=Fr.Br Fr.Ie;have fin:∀(f:Fr) (e:Int) (h5:Ab) (kk:Ab->R),(∀h',kk h'=Ji TT [.c (.ptr (h.next+2) 0) 167,.v (I e)] h')->HB h5->Ext h h5->h5.get (h.next+2)=some (.cells Fr.zero.cells 167)->f.Wf->(f,e)=Ab6 s ->
  Ok (stE 49 (.ptr (h.next+2) 0) (.agg f.cells) h5 kk) fun v h'=>v=.tuple [.agg (Ab6 s).1.cells,I (Ab6 s).2]/\Ext h h':=by
  intro f e h5 kk c8 W x5 g5 wf he;have fl:=Fr.Br wf;refine Ok.st f.cells g5 rfl (by show Gk f.cells=49;rw[Bc,fl]) (Bm (by rw[zl];exact fl.symm)) ?_;have g6:(h5.put (h.next+2) (.cells f.cells 167)).get (h.next+2)=some (.cells f.cells 167):=Af _ _ _;rw[c8,Gg g6 A7w.1 A7w.2 fl,<-he];exact .ret ⟨rfl,x5.Ar (.inr (by omega)) (W _ _ g5) _⟩
 simp only[Cv c5,Aw,Aa,Db g2 rfl,Ai Wx];rw[show ∀k:EV->R,Uk 64 1 (.ptr (h.next+1) 0) none none none k=k (.slice (h.next+1) 0 64 64 false)from fun k=>rfl];have bs:Bs h1 (.slice (h.next+1) 0 s.length 64 false) (h.next+1) 0 s:=by
  refine⟨64,false,_,Bh s,rfl,by omega,g3,rfl,by rw[Be];omega,?_⟩;rw[dC,<-Be,cN]
 have bx:=Bss (K:=K) hK bs.lift (D4 ah) hu (by omega) (by omega);rw[hl]at bx;refine Ok.bE bx (fun _ _ p=>p.1) ?_;rintro v h2 h3 ⟨_,_,hv⟩ sm x3;have a0:=x3.hb ah;have g4:=x3.at ah g4;have bz:=x1.trans x3;rcases hv with⟨ho,rfl⟩|⟨ho,y,q',rfl,ry,lq⟩
 ·simp only[Aa,I,Ac]
  simp only[show ¬((11:Int)=0) by decide,aN,aB,Aa];rw[Ay (l:=Fr.zero.cells) rfl];exact fin Fr.zero 11 h3 _ (fun _=>rfl) a0 bz g4 Fr.Ie (by unfold Ab6;rw[aG ho])
 ·have db:¬A4q s=false:=by rw[ho];simp
  simp only[Aa,I,Ac];simp only[aD,aA,Aa,Arr];have de:s.length-4=60:=by omega
  rw[de]at ry;have b5:(s.take 60).length=60:=by rw[cD,hl];decide
  have G:∀b∈s.take 60,b<256:=fun b hb=>hu b (b9 hb)
  have b6:Cs h3 y q' 5 1 (s.take 60).length (Bh (s.take 60)):=ry.frame fun _=>sm.get _
  have X:Ab6 s=if leV (((s.take 60).drop 1).take 1)=1/\frB (Ae4 (s.take 60))=true then(Ae4 (s.take 60),0)else(Fr.zero,10):=by unfold Ab6;rw[aF db]
  have D:=A4s b5 G;rw[X]at fin⊢;unfold Ae4 at fin X D⊢;generalize s.take 60=p at b6 b5 G fin X D⊢;refine(Az7 (K:=K) (b6.bs (by omega)) a0 (by omega) (by omega)).An ?_;rintro _ h5 ⟨U,q,rfl,d0,x5,W,eB⟩;have g4:=x5.at a0 g4;have df:=bz.trans x5;have eE:U<h5.next:=by obtain⟨_,g,_⟩:=d0.Qu;exact W _ _ g
  have eF:h.next+2<U:=by have:=d0.ne;have:=x3.next;omega
  have up:∀{H M:Ab},Ext h H->Av (fun i=>i=U) H M->Ext h M:=fun x c=>x.then c fun j hj dg=>by
   have hj:j=U:=hj;omega
  have Gx:∀{H M:Ab} {i:Nat} {o:Ec},Av (fun i=>i=U) H M->HB H->H.get i=some o->i≠U->M.get i=some o:=fun c hb g hi=>c.at hb g hi
  refine(Akh (K:=K) (w:=1) d0 W (by omega) (by decide) (by decide) (by omega) G).An ?_;rintro _ h6 ⟨rfl,d1,c6,a1⟩;have g4:=Gx c6 W g4 (by omega);have x6:=up df c6;rw[Ay (l:=(⟨leV (p.take 1),0,0,0,0,List.replicate 44 0⟩:Fr).cells) rfl]
  try simp only[Aa]
  rw[Fr.Js];have x7:Ext h6 (h6.new (.cells Fr.zero.cells 167)):=Av.new _ _;have m:(h6.new (.cells Fr.zero.cells 167)).get h6.next=some (.cells Fr.zero.cells 167):=Ad _ _
  have n7:(h6.new (.cells Fr.zero.cells 167)).next=h6.next+1:=rfl
  have g4:=x7.at a1 g4;have aj:=x7.hb a1;have d1:=d1.ext a1 x7;have b8:=x6.trans x7;have hF:U<h6.next:=by have:=c6.next;omega
  generalize h6.new (.cells Fr.zero.cells 167)=h7 at x7 m n7 g4 aj d1 b8⊢;generalize h6.next=A at m n7 hF⊢
  refine Ok.st (⟨leV (p.take 1),0,0,0,0,List.replicate 44 0⟩:Fr).cells m rfl (by kernel_rfl) (Bm (by kernel_rfl)) ?_;have lF:=aj _ _ m;have m:(h7.put A (.cells (⟨leV (p.take 1),0,0,0,0,List.replicate 44 0⟩:Fr).cells 167)).get A=some (.cells (⟨leV (p.take 1),0,0,0,0,List.replicate 44 0⟩:Fr).cells 167):=Af _ _ _;have g4:(h7.put A (.cells (⟨leV (p.take 1),0,0,0,0,List.replicate 44 0⟩:Fr).cells 167)).get (h.next+2)=some (.cells Fr.zero.cells 167):=by rw[Ag _];exact g4
  have d1:Rd (h7.put A (.cells (⟨leV (p.take 1),0,0,0,0,List.replicate 44 0⟩:Fr).cells 167)) U q (0+1) (p.drop 1):=by
   have c:Av (fun i=>i=A) h7 (h7.put A (.cells (⟨leV (p.take 1),0,0,0,0,List.replicate 44 0⟩:Fr).cells 167)):=(Av.refl (S:=fun i=>i=A) h7).Ar (.inl rfl) lF _;exact d1.chg aj c (by have:=d1.ne;intro y;omega) (by intro y;omega)
  have x8:Ext h (h7.put A (.cells (⟨leV (p.take 1),0,0,0,0,List.replicate 44 0⟩:Fr).cells 167)):=b8.Ar (.inr (by omega)) lF _;have al:=aj.put lF (.cells (⟨leV (p.take 1),0,0,0,0,List.replicate 44 0⟩:Fr).cells 167);generalize h7.put A (.cells (⟨leV (p.take 1),0,0,0,0,List.replicate 44 0⟩:Fr).cells 167)=h8 at m g4 d1 x8 al⊢;refine(Akh (K:=K) (w:=1) d1 al (by omega) (by decide) (by decide) (by simp only[bW];omega) (fun b hb=>G b (by revert hb;exact fun y=>aU y))).An ?_;rintro _ h9 ⟨rfl,d2,c9,a2⟩;have g4:=Gx c9 al g4 (by omega);have m:=Gx c9 al m (by omega);have x9:=up x8 c9;refine(Akh (K:=K) (w:=2) d2 a2 (by omega) (by decide) (by decide) (by simp only[bW];omega) (fun b hb=>G b (aU (aU hb)))).An ?_;rintro _ eN ⟨rfl,d3,a3,Y⟩;have g4:=Gx a3 a2 g4 (by omega);have m:=Gx a3 a2 m (by omega);have dt:=up x9 a3;refine(Akh (K:=K) (w:=2) d3 Y (by omega) (by decide) (by decide) (by simp only[bW];omega) (fun b hb=>G b (aU (aU (aU hb))))).An ?_;rintro _ eS ⟨rfl,d4,a6,Z⟩;have g4:=Gx a6 Y g4 (by omega);have m:=Gx a6 Y m (by omega);have du:=up dt a6;refine(Akh (K:=K) (w:=4) d4 Z (by omega) (by decide) (by decide) (by simp only[bW];omega) (fun b hb=>G b (aU (aU (aU (aU hb)))))).An ?_;rintro _ eY ⟨rfl,d5,a7,aa⟩;have g4:=Gx a7 Z g4 (by omega);have m:=Gx a7 Z m (by omega);have dw:=up du a7;refine(Akh (K:=K) (w:=6) d5 aa (by omega) (by decide) (by decide) (by simp only[bW];omega) (fun b hb=>G b (aU (aU (aU (aU (aU hb))))))).An ?_;rintro _ eZ ⟨rfl,d6,ba,ab⟩;have g4:=Gx ba aa g4 (by omega);have m:=Gx ba aa m (by omega);have ca:=up dw ba;have ad:∀{H M:Ab},Ext h H->Av (fun i=>i=A) H M->Ext h M:=fun x c=>x.then c fun j hj dg=>by
   have hj:j=A:=hj;omega
  have B:∀{H M:Ab} {i:Nat} {o:Ec},Av (fun i=>i=A) H M->HB H->H.get i=some o->i≠A->M.get i=some o:=fun c hb g hi=>c.at hb g hi
  have C:∀{H M:Ab} {off:Nat} {l:List Nat},Av (fun i=>i=A) H M->HB H->Rd H U q off l->Rd M U q off l:=fun c hb d=>d.chg hb c (by have:=d.ne;intro y;omega) (by intro y;omega)
  have hz:(⟨leV (p.take 1),0,0,0,0,List.replicate 44 0⟩:Fr).cells.length=49:=by kernel_rfl
  refine Ok.A4a m ab rfl rfl (by rw[hz];decide) ?_;intro fa m bb ae;have g4:=B bb ab g4 (by omega);have d6:=C bb ab d6;have dx:=ad ca bb
  try simp only[Aa]
  refine Ok.A4a m ae rfl rfl (by rw[bK,hz];decide) ?_;intro fc m bf af;have g4:=B bf ae g4 (by omega);have d6:=C bf ae d6;have cc:=ad dx bf
  try simp only[Aa]
  refine Ok.A4a m af rfl rfl (by rw[bK,bK,hz];decide) ?_;intro fe m bj ag;have g4:=B bj af g4 (by omega);have d6:=C bj af d6;have dy:=ad cc bj
  try simp only[Aa]
  refine Ok.A4a m ag rfl rfl (by rw[bK,bK,bK,hz];decide) ?_;intro cf m bk O;have g4:=B bk ag g4 (by omega);have d6:=C bk ag d6;have ch:=ad dy bk
  try simp only[Aa]
  have m:cf.get A=some (.cells ([Nk .i64 (leV (p.take 1)),Nk .i64 (leV (((p.drop 1).drop 1).take 2)),Nk .i64 (leV ((((p.drop 1).drop 1).drop 2).take 2)),Nk .i64 (leV (((((p.drop 1).drop 1).drop 2).drop 2).take 4)),Nk .i64 (leV ((((((p.drop 1).drop 1).drop 2).drop 2).drop 4).take 6))]++Bh (List.replicate 44 0)) 167):=m;rw[show ∀k:EV->R,Uk 44 1 (.ptr A 5) none none none k=k (.slice A 5 44 44 false)from fun k=>rfl];have u:((((((p.drop 1).drop 1).drop 2).drop 2).drop 4).drop 6).length=44:=by simp only[bW];omega
  have dl:Rd cf.lift U q (0+1+1+2+2+4+6) ((((((p.drop 1).drop 1).drop 2).drop 2).drop 4).drop 6):=d6.chg O (S:=fun _=>False) ⟨fun i _ _=>Ci _ _,aE _,fun w _ w2 _=>w2,fun y=>D4 y⟩ id id;refine Ok.bC (S:=fun i=>i=U) (Bec (K:=K) (n:=44) dl (D4 O) (by decide) (by omega)) (fun _ _ p=>p.2.2.1) ?_;rintro bn eo J s' ⟨V,d7,_,bo⟩ Q bp bt;have T:=Q.hb bo;have V:Bs J bn q (0+1+1+2+2+4+6) (((((((p.drop 1).drop 1).drop 2).drop 2).drop 4).drop 6).take 44):=V.frame (Q.get _);have d7:Rd J U q (0+1+1+2+2+4+6+44) (((((((p.drop 1).drop 1).drop 2).drop 2).drop 4).drop 6).drop 44):=by
   obtain⟨s0,g,e,f⟩:=d7.Qu;exact⟨⟨s0,by rw[Q.get];exact g,e,fun y=>⟨(f y).1,(f y).2.frame (Q.get _)⟩⟩,d7.ne⟩
  have g4:=Gx bp O g4 (by omega);have m:=Gx bp O m (by omega);have ea:=up ch bp;generalize ff:(((((p.drop 1).drop 1).drop 2).drop 2).drop 4).drop 6=body at V d7 u fin D⊢;generalize hq:leV ((p.drop 1).take 1)=ao at fin⊢;generalize leV (p.take 1)=na at m fin D⊢;generalize leV (((p.drop 1).drop 1).take 2)=nz at m fin D⊢;generalize leV ((((p.drop 1).drop 1).drop 2).take 2)=no at m fin D⊢;generalize leV (((((p.drop 1).drop 1).drop 2).drop 2).take 4)=ne at m fin D⊢;generalize leV ((((((p.drop 1).drop 1).drop 2).drop 2).drop 4).take 6)=ns at m fin D⊢;have eb:body.take 44=body:=bR (by omega);rw[eb]at V fin D⊢;have ec:body.drop 44 = []:=List.drop_eq_nil_of_le (by omega);rw[ec]at d7;have hlen:lenOf bn=some 44:=by have:=V.len;rw[u]at this;exact this
  have cp:N9 J.lift 1 44 bn=some (Bh body):=by have:=V.lift.cells;rw[u]at this;exact this
  have ed:=A87 (h:=J.lift) (i:=A) (n:=44) (r:=44) (op:=false) (t:=167) (hd:=[Nk .i64 na,Nk .i64 nz,Nk .i64 no,Nk .i64 ne,Nk .i64 ns]) (By:=Bh (List.replicate 44 0)) (by rw[Ci];exact m) hlen (by decide) cp (by rw[Be,u]) (by rw[Be,bQ]);have ct:=T _ _ m;refine Ok.Bpc (S:=fun i=>i=A) (by rcases bt with rfl|⟨w,rfl,_⟩<;>kernel_rfl) (by rcases bt with rfl|⟨w,rfl,_⟩<;>kernel_rfl) (fun w=>by rcases bt with rfl|⟨w,rfl,_⟩<;>kernel_rfl) (P:=fun v h'=>h'=J.lift.put A (.cells ([Nk .i64 na,Nk .i64 nz,Nk .i64 no,Nk .i64 ne,Nk .i64 ns]++Bh body) 167)) ⟨_,_,ed,rfl⟩ (fun _ _ p=>by rw[p];exact(Av.refl (S:=fun i=>i=A) J.lift).Ar (.inl rfl) (show A<J.lift.next from ct) _) ?_;rintro fg et bu s2 rfl cv aq _;have F:=aq.hb T;have m:bu.get A=some (.cells ([Nk .i64 na,Nk .i64 nz,Nk .i64 no,Nk .i64 ne,Nk .i64 ns]++Bh body) 167):=by rw[cv.get];exact Af _ _ _
  have g4:=B aq T g4 (by omega);have d7:=C aq T d7;have cw:=ad ea aq;simp only[Ac];have cl:([Nk .i64 na,Nk .i64 nz,Nk .i64 no,Nk .i64 ne,Nk .i64 ns]++Bh body).length=49:=by rw[aH,Be,u];rfl
  have bad:∀L:Ab,Ext bu L->¬(ao=1/\frB ⟨na,nz,no,ne,ns,body⟩=true)->∀w:EV,Ok (Aah K (.ptr (h.next+2) 0) (.ptr A 0) (.bool true) w L) _:=fun L E ee w=>by
   simp only[Aah,Aa];rw[Ay (l:=Fr.zero.cells) rfl];exact fin Fr.zero 10 L _ (fun _=>rfl) (E.hb F) (cw.trans E) (E.at F g4) Fr.Ie (by rw[aF ee])
  by_cases hv:ao=1
  ·rw[show decide (¬Int.ofNat ao=1)=false from aP (by rw[hv];exact fun y=>y rfl)]
   simp only[Aa];rw[Db m rfl,Ai cl];simp only[Ia];refine(Ajh (K:=K) ⟨na,nz,no,ne,ns,body⟩).An ?_;rintro _ L ⟨rfl,E⟩;generalize frB ⟨na,nz,no,ne,ns,body⟩=fb at fin bad⊢;cases fb with
   | false=>
    simp only[Aa,Aaj,Ac];exact bad L E (by simp) _
   | true=>
    have cx:=E.hb F;simp only[Aa,Aaj,Ac,Brp (d7.ext F E),I];simp only[Aah,Aa,aD,aA,Arc];rw[Db (E.at F m) rfl,Ai cl];simp only[Ia];have r:=fin ⟨na,nz,no,ne,ns,body⟩ 0 L (fun z=>Ji TT [RV.c (EV.ptr (h.next+2) 0) 167,RV.v (EV.int IntKind.i64 0)] z) (fun _=>rfl) cx (cw.trans E) (E.at F g4) D (by rw[aG ⟨hv,rfl⟩]);simp only[eq_self]at r;exact r
  ·rw[show decide (¬Int.ofNat ao=1)=true from aM fun y=>hv (Int.ofNat.inj y)]
   simp only[Aa,Aaj,Ac];exact bad bu (Av.refl _) (fun y=>hv y.1) _
noncomputable def atF(s:List Nat)(Aj off:Int):Fr × Int:=
 if ¬(Ab6 s).2=0 then(Fr.zero,(Ab6 s).2)else if ¬(Ab6 s).1.Aj=Aj\/¬(Ab6 s).1.off=off then(Fr.zero,12)else((Ab6 s).1,0)
theorem Bdv{s:List Nat}(G:s.length=64)(hu:∀b∈s,b<256)(hb:HB h)(W:10000<K)(Aj off:Int):
 Ok (Ayj K Abr (.agg (Bh s)) (I Aj) (I off) h) fun v h'=>v=.tuple [.agg (atF s Aj off).1.cells,I (atF s Aj off).2]/\(atF s Aj off).1.Wf/\Ext h h':=by
 unfold Abr;simp only[Ayj,Aa];rw[Fr.Js];have H:Ext h (((h.new (.cells Bn 96)).new (.cells (Bh s) 30)).new (.cells Fr.zero.cells 167)):=((Av.new _ _).Ds _).Ds _;have Q:(((h.new (.cells Bn 96)).new (.cells (Bh s) 30)).new (.cells Fr.zero.cells 167)).get h.next=some (.cells Bn 96):=by
  rw[Az _ (by show h.next<h.next+1+1;omega),Az _ (aL _)];exact Ad _ _
 have S:(((h.new (.cells Bn 96)).new (.cells (Bh s) 30)).new (.cells Fr.zero.cells 167)).get (h.next+1)=some (.cells (Bh s) 30):=by
  rw[Az _ (by show h.next+1<h.next+1+1;omega)];exact Ad _ _
 have g4:(((h.new (.cells Bn 96)).new (.cells (Bh s) 30)).new (.cells Fr.zero.cells 167)).get (h.next+2)=some (.cells Fr.zero.cells 167):=Ad _ _;have X:(((h.new (.cells Bn 96)).new (.cells (Bh s) 30)).new (.cells Fr.zero.cells 167)).next=h.next+3:=rfl
 rw[show(h.new (.cells Bn 96)).next=h.next+1 from rfl,show((h.new (.cells Bn 96)).new (.cells (Bh s) 30)).next=h.next+2 from rfl];generalize ((h.new (.cells Bn 96)).new (.cells (Bh s) 30)).new (.cells Fr.zero.cells 167)=h1 at H Q S g4 X⊢;have j:=H.hb hb;have zl:=Fr.Br Fr.Ie;have m:=Bst G hu;have fin:∀(f:Fr) (e:Int) (u:Ab) (J:Ab->R),(∀h',J h'=Ji TT [.c (.ptr (h.next+2) 0) 167,.v (I e)] h')->HB u->Ext h u->u.get (h.next+2)=some (.cells Fr.zero.cells 167)->f.Wf->(f,e)=atF s Aj off ->
  Ok (stE 49 (.ptr (h.next+2) 0) (.agg f.cells) u J) fun v h'=>v=.tuple [.agg (atF s Aj off).1.cells,I (atF s Aj off).2]/\(atF s Aj off).1.Wf/\Ext h h':=by
  intro f e u J L M Y g5 wf he;have fl:=Fr.Br wf;refine Ok.st f.cells g5 rfl (by show Gk f.cells=49;rw[Bc,fl]) (Bm (by rw[zl];exact fl.symm)) ?_;have Z:(u.put (h.next+2) (.cells f.cells 167)).get (h.next+2)=some (.cells f.cells 167):=Af _ _ _;rw[L,Gg Z A7w.1 A7w.2 fl,<-he];exact .ret ⟨rfl,wf,Y.Ar (.inr (by omega)) (M _ _ g5) _⟩
 have u64:(Bh s).length=64:=by rw[Be,G]
 rw[Db Q rfl,Ai Wx];simp only[Ia];rw[Db S rfl,Ai u64];simp only[Ia];refine(A2v (K:=K) G hu j W).An ?_;rintro _ h2 ⟨rfl,D⟩;have y:=D.hb j;have g4:=D.at j g4;have O:=H.trans D;simp only[Aa];have E:Ext h2 (h2.new (.cells Fr.zero.cells 167)):=Av.new _ _;have g:(h2.new (.cells Fr.zero.cells 167)).get h2.next=some (.cells Fr.zero.cells 167):=Ad _ _
 have g4:=E.at y g4;have o:=E.hb y;have A:=O.trans E;have n2:h.next+3<=h2.next:=by have:=D.next;omega
 generalize h2.new (.cells Fr.zero.cells 167)=F at E g g4 o A⊢;generalize h2.next=B at g n2⊢
 have dl:=Fr.Br m;refine Ok.st (Ab6 s).1.cells g rfl (by show Gk (Ab6 s).1.cells=49;rw[Bc,dl]) (Bm (by rw[zl];exact dl.symm)) ?_;have T:=o _ _ g;have g:(F.put B (.cells (Ab6 s).1.cells 167)).get B=some (.cells (Ab6 s).1.cells 167):=Af _ _ _;have g4:(F.put B (.cells (Ab6 s).1.cells 167)).get (h.next+2)=some (.cells Fr.zero.cells 167):=by rw[Ag _];exact g4
 have C:Ext h (F.put B (.cells (Ab6 s).1.cells 167)):=A.Ar (.inr (by omega)) T _;have d:=o.put T (.cells (Ab6 s).1.cells 167);have e0:EV.cells (EV.agg (Ab6 s).1.cells)=(Ab6 s).1.cells:=rfl;generalize F.put B (.cells (Ab6 s).1.cells 167)=h4 at g g4 C d⊢;unfold atF at fin⊢;generalize (Ab6 s).2=e at fin⊢;generalize (Ab6 s).1=f at fin m dl g⊢;simp only[I,Ac];by_cases he:e=0
 ·subst he
  simp only[aD,aA,Aa,A1r,C8 g rfl,bD]at fin⊢;have l1:f.cells[1]? = some (I f.Aj):=rfl;have l2:f.cells[2]? = some (I f.off):=rfl;rw[l1];simp only[Ia,I,Ac];by_cases U:f.Aj=Aj
  ·simp only[U,aD,aA,Aa,C8 g rfl,false_or]at fin⊢
   rw[l2];simp only[Ia,I,Ac];by_cases V:f.off=off
   ·simp only[V,aD,aA,Aa,Al6,bD,A2q]at fin⊢
    rw[Db g rfl,Ai dl];exact fin f 0 h4 _ (fun _=>rfl) d C g4 m rfl
   ·simp only[V,aN,aB,Aa,Al6,bM]at fin⊢
    rw[Ay (l:=Fr.zero.cells) rfl];exact fin Fr.zero 12 h4 _ (fun _=>rfl) d C g4 Fr.Ie rfl
  ·simp only[U,aN,aB,Aa,true_or,bM,Al6]at fin⊢
   rw[Ay (l:=Fr.zero.cells) rfl];exact fin Fr.zero 12 h4 _ (fun _=>rfl) d C g4 Fr.Ie rfl
 ·simp only[he,aN,aB,Aa,bM]at fin⊢
  rw[Ay (l:=Fr.zero.cells) rfl];exact fin Fr.zero e h4 _ (fun _=>rfl) d C g4 Fr.Ie rfl
structure En where
 kind:Int
 first:Int
 count:Int
 block:Int
 many:Int
 Ba:Int
 bytes:List Nat
def En.cells(e:En):List EV:=[I e.kind,I e.first,I e.count,I e.block,I e.many,I e.Ba]++Bh e.bytes
structure En.Wf(e:En):Prop where
 len:e.bytes.length=32
 u8:∀b∈e.bytes,b<256
theorem En.Br {e:En}(w:e.Wf):e.cells.length=38:=by
 unfold En.cells;rw[aH,Be,w.len];rfl
theorem Bno(a b:Nat):Ao6 (Nk .u8 a) (Nk .u8 b)=some (decide (a=b)):=by
 show Bf (Nat.beq (T4 .u8) (T4 .u8)) (some (eqB (Int.ofNat a) (Int.ofNat b))) none=_;rw[cO,Ak,An6];exact congrArg some (eD.2 ⟨Int.ofNat.inj,congrArg _⟩)
theorem A03:∀(a b:List Nat),a.length=b.length->F1 (Bh a) (Bh b)=some (decide (a=b))
 | [],[],_=>rfl
 | x::a,y::b,h=>by
  have g:=A03 a b (by simpa using h);show(match Ao6 (Nk .u8 x) (Nk .u8 y)with|some true=>F1 (Bh a) (Bh b)|some false=>(match F1 (Bh a) (Bh b)with|some _=>some false|none=>none)|none=>none)=_;rw[Bno,g];by_cases d:x=y
  ·rw[aM d]
   subst d;simp
  ·rw[aP d]
   simp[d]
theorem A0v:∀(a:List Nat),shaped (List.replicate a.length 0) (Bh a)=true
 | []=>rfl
 | x::a=>by
  show Bf (Nat.beq 0 0) (shaped (List.replicate a.length 0) (Bh a)) false=true;rw[A0v a];rfl
theorem Bki(d:TT.eqs t=some (List.replicate n 0)){a b:List Nat}(g:a.length=n)(hb:b.length=n)(k:EV->R):Kl An2 (bin TT .eql t) (.agg (Bh a)) (.agg (Bh b)) k=k (.bool (decide (a=b))):=by
 have e:bin TT .eql t (.agg (Bh a)) (.agg (Bh b))=some (.bool (decide (a=b))):=by
  show(match Axy TT t (.agg (Bh a)) (.agg (Bh b))with|some b=>some (EV.bool b)|none=>none)=_;have:Axy TT t (.agg (Bh a)) (.agg (Bh b))=some (decide (a=b)):=by
   show(match TT.eqs t with|some sh=>Bf (shaped sh (Bh a)) (F1 (Bh a) (Bh b)) none|none=>none)=_;rw[d];simp only;rw[show List.replicate n 0=List.replicate a.length 0 by rw[g],A0v,Ak,A03 a b (by omega)]
  rw[this]
 show oB k (bin TT .eql t (.agg (Bh a)) (.agg (Bh b)))=_;rw[e];rfl
theorem A73(d:TT.eqs t=some (List.replicate n 0)){a b:List Nat}(g:a.length=n)(hb:b.length=n)(k:EV->R):Kl Alb (bin TT .neq t) (.agg (Bh a)) (.agg (Bh b)) k=k (.bool (decide (¬a=b))):=by
 have e:bin TT .neq t (.agg (Bh a)) (.agg (Bh b))=some (.bool (decide (¬a=b))):=by
  show(match Axy TT t (.agg (Bh a)) (.agg (Bh b))with|some b=>some (EV.bool (Bf b false true))|none=>none)=_;have:Axy TT t (.agg (Bh a)) (.agg (Bh b))=some (decide (a=b)):=by
   show(match TT.eqs t with|some sh=>Bf (shaped sh (Bh a)) (F1 (Bh a) (Bh b)) none|none=>none)=_;rw[d];simp only;rw[show List.replicate n 0=List.replicate a.length 0 by rw[g],A0v,Ak,A03 a b (by omega)]
  rw[this];by_cases h:a=b
  ·simp[h,Bf]
  ·simp[h,Bf]
 show oB k (bin TT .neq t (.agg (Bh a)) (.agg (Bh b)))=_;rw[e];rfl
theorem Bth:TT.eqs 49=some (List.replicate 32 0):=by kernel_rfl
theorem Btx:TT.eqs 165=some (List.replicate 44 0):=by kernel_rfl
theorem T8(n a b:Int)(h:Ab):Tg K (.int .i64 n) (.int .i64 a) (.int .i64 b) h=some (.bool (wi n a b),h):=by
 simp only[Tg,Ac,Aa];by_cases d:a<=n
 ·simp only[d,aB,Aa,Ac,Ag3,wi,bF]
 ·simp only[d,aA,Aa,Ag3,wi,bA]
def Dp:List Nat:=List.replicate 32 0
def Aq0(e:En):Bool:=
 if e.kind=1 then wi e.count 1 4&&decide (e.many=0)else
 if e.kind=2 then(decide (e.count=1)&&wi e.many 1 (256-e.block))&&decide (e.bytes=Dp)else
 if e.kind=3 then decide (e.count=1)&&decide (e.many=0)else false
theorem Io:List.replicate 32 (EV.int .u8 0)=Bh Dp:=by kernel_rfl
theorem A20{e:En}(w:e.Wf)(j:wi e.block 0 255=true):Ok (Tv K (.agg e.cells) h) fun v h'=>v=.bool (Aq0 e)/\Ext h h':=by
 obtain⟨b0,b1⟩:=Fl.1 j;simp only[Tv,Aa];obtain⟨E,B,d,g,_⟩:=nW h (.cells e.cells 131);rw[B];have l0:e.cells[0]? = some (I e.kind):=rfl;have m:e.cells[2]? = some (I e.count):=rfl;have C:e.cells[3]? = some (I e.block):=rfl;have o:e.cells[4]? = some (I e.many):=rfl;have D:Oy e.cells 6 32=some (Bh e.bytes):=by
  rw[Fw (by rw[En.Br w];decide)];show some (List.take 32 (Bh e.bytes))=_;rw[bR (by rw[Be,w.len];decide)]
 simp only[C8 g rfl,Aa,l0,I,Ac];unfold Aq0;by_cases u:e.kind=1
 ·simp only[u,aB,Aa,C8 g rfl,m,I,T8,Ac,bM]
  cases wi e.count 1 4 with
  | false=>simp only[Aa,Vm,Ac];exact .ret ⟨rfl,d⟩
  | true=>
   simp only[Aa,C8 g rfl,o,I,Ac,Vm,bF];exact .ret ⟨rfl,d⟩
 ·simp only[u,aA,Aa,bD,Ac]
  by_cases y:e.kind=2
  ·simp only[y,aB,Aa,C8 g rfl,m,I,Ac,bM]
   by_cases c1:e.count=1
   ·simp only[c1,aB,Aa,C8 g rfl,o,C,I,Ac,bF]
    rw[Cj,T8];simp only[Aa,Vn];cases wi e.many 1 (256-e.block)with
    | false=>simp only[Aa,Ou,Ac,bA];exact .ret ⟨rfl,d⟩
    | true=>
     simp only[Aa,Ac,Db g rfl,D];rw[Ay (l:=Bh Dp) (by rw[Io];rfl),Bki Bth w.len (by rfl)];simp only[Ou,Aa,bF];exact .ret ⟨rfl,d⟩
   ·simp only[c1,aA,Aa,Ac,Vn,Ou,bA]
    exact .ret ⟨rfl,d⟩
  ·simp only[y,aA,Aa,bD,Ac]
   by_cases A:e.kind=3
   ·simp only[A,aB,Aa,C8 g rfl,m,I,Ac,bM]
    by_cases c1:e.count=1
    ·simp only[c1,aB,Aa,C8 g rfl,o,I,Ac,Vg,bF]
     exact .ret ⟨rfl,d⟩
    ·simp only[c1,aA,Aa,Ac,Vg,bA]
     exact .ret ⟨rfl,d⟩
   ·simp only[A,aA,Aa,bD,Ad4]
    exact .ret ⟨rfl,d⟩
def erB(e:En):Bool:=wi e.first 0 281474976710655&&(wi e.block 0 255&&(wi e.Ba 0 65535&&Aq0 e))
theorem A3z{e:En}(w:e.Wf):Ok (Ww K (.agg e.cells) h) fun v h'=>v=.bool (erB e)/\Ext h h':=by
 simp only[Ww,Aa];obtain⟨A,m,d,g,_⟩:=nW h (.cells e.cells 131);rw[m];have l1:e.cells[1]? = some (I e.first):=rfl;have o:e.cells[3]? = some (I e.block):=rfl;have u:e.cells[5]? = some (I e.Ba):=rfl;simp only[C8 g rfl,Aa,l1,I,T8,Ac];unfold erB;cases wi e.first 0 281474976710655 with
 | false=>simp only[Aa,Ac,Xn,Pz,Lw];exact .ret ⟨rfl,d⟩
 | true=>
 simp only[Aa,Ac,C8 g rfl,o,I,T8,Xn,bF];cases j:wi e.block 0 255 with
 | false=>simp only[Aa,Ac,Pz,Lw];exact .ret ⟨rfl,d⟩
 | true=>
 simp only[Aa,Ac,C8 g rfl,u,I,T8,Pz,bF];cases wi e.Ba 0 65535 with
 | false=>simp only[Aa,Ac,Lw];exact .ret ⟨rfl,d⟩
 | true=>
 simp only[Aa,Ac,bF];rw[Db g rfl,Ai (En.Br w)];simp only[Ia];refine(A20 (K:=K) w j).An ?_;rintro _ h2 ⟨rfl,y⟩;simp only[Lw,Aa];exact .ret ⟨rfl,d.trans y⟩
variable {e:En}
def Ab2(e:En):List Nat:=Zz 6 e.first.toNat++Zz 1 e.count.toNat++Zz 1 e.block.toNat++Zz 2 e.many.toNat++Zz 2 e.Ba.toNat++e.bytes
def Aau:List Nat:=List.replicate 44 0
theorem Awz:List.replicate 44 (EV.int .u8 0)=Bh Aau:=by kernel_rfl
def Ee(e:En):List Nat × Int:=if erB e=true then(Ab2 e,0)else(Aau,10)
theorem A69(w:e.Wf):(Ab2 e).length=44:=by
 unfold Ab2;simp only[aH,H6,w.len]
theorem Bp5(w:e.Wf):∀b∈Ab2 e,b<256:=fun b hb=>by
 unfold Ab2 at hb;simp only[bO]at hb;rcases hb with((((hb|hb)|hb)|hb)|hb)|hb
 ·exact Aev _ _ b hb
 ·exact Aev _ _ b hb
 ·exact Aev _ _ b hb
 ·exact Aev _ _ b hb
 ·exact Aev _ _ b hb
 ·exact w.u8 b hb
theorem Aoh(w:e.Wf):(Ee e).1.length=44:=by
 unfold Ee;split
 ·exact A69 w
 ·rfl
theorem Bbo(w:e.Wf):∀b∈(Ee e).1,b<256:=by
 unfold Ee;split
 ·exact Bp5 w
 ·intro b hb;rw[bP hb];decide
theorem A65:TT.size 165=some 44/\TT.agg 165=some true:=⟨by kernel_rfl,by kernel_rfl⟩
theorem Bg7(g:erB e=true):(0<=e.first/\e.first<=281474976710655)/\(0<=e.block/\e.block<=255)/\(0<=e.Ba/\e.Ba<=65535)/\(1<=e.count/\e.count<=4)/\(0<=e.many/\e.many<=256)/\(1<=e.kind/\e.kind<=3):=by
 unfold erB at g;simp only[aR]at g;obtain⟨j,m,o,d⟩:=g;have a:=Fl.1 j;have b:=Fl.1 m;have c:=Fl.1 o;refine⟨a,b,c,?_⟩;unfold Aq0 at d;split at d
 ·simp only[aR,aQ]at d
  have:=Fl.1 d.1;omega
 ·split at d
  ·simp only[aR,aQ]at d
   have:=Fl.1 d.1.2;omega
  ·split at d
   ·simp only[aR,aQ]at d
    omega
   ·cases d
theorem Awo(w:e.Wf)(hb:HB h)(hK:10000<K):
 Ok (Rz K (.agg e.cells) h) fun v h'=>v=.tuple [.agg (Bh (Ee e).1),I (Ee e).2]/\Ext h h':=by
 have l1:e.cells[1]? = some (I e.first):=rfl;have l2:e.cells[2]? = some (I e.count):=rfl;have l3:e.cells[3]? = some (I e.block):=rfl;have l4:e.cells[4]? = some (I e.many):=rfl;have l5:e.cells[5]? = some (I e.Ba):=rfl;have X:=En.Br w;simp only[Rz,Aa];rw[Awz];have x1:Ext h (((h.new (.cells e.cells 131)).new (.cells (Bh Aau) 165)).new (.cells (Bh Aau) 165)):=((Av.new _ _).Ds _).Ds _;have m:(((h.new (.cells e.cells 131)).new (.cells (Bh Aau) 165)).new (.cells (Bh Aau) 165)).get h.next=some (.cells e.cells 131):=by
  rw[Az _ (by show h.next<h.next+1+1;omega),Az _ (aL _)];exact Ad _ _
 have d:(((h.new (.cells e.cells 131)).new (.cells (Bh Aau) 165)).new (.cells (Bh Aau) 165)).get (h.next+1)=some (.cells (Bh Aau) 165):=by
  rw[Az _ (by show h.next+1<h.next+1+1;omega)];exact Ad _ _
 have g4:(((h.new (.cells e.cells 131)).new (.cells (Bh Aau) 165)).new (.cells (Bh Aau) 165)).get (h.next+2)=some (.cells (Bh Aau) 165):=Ad _ _;have n1:(((h.new (.cells e.cells 131)).new (.cells (Bh Aau) 165)).new (.cells (Bh Aau) 165)).next=h.next+3:=rfl
 rw[show(h.new (.cells e.cells 131)).next=h.next+1 from rfl,show((h.new (.cells e.cells 131)).new (.cells (Bh Aau) 165)).next=h.next+2 from rfl];generalize ((h.new (.cells e.cells 131)).new (.cells (Bh Aau) 165)).new (.cells (Bh Aau) 165)=h1 at x1 m d g4 n1⊢;have G:=x1.hb hb;have zl:(Bh Aau).length=44:=by rw[Be];rfl
 have fin:∀(l:List Nat) (er:Int) (Q:Ab) (kk:Ab->R),(∀h',kk h'=Ji TT [.c (.ptr (h.next+1) 0) 165,.v (I er)] h')->HB Q->Ext h Q->Q.get (h.next+1)=some (.cells (Bh Aau) 165)->l.length=44->(l,er)=Ee e ->
  Ok (stE 44 (.ptr (h.next+1) 0) (.agg (Bh l)) Q kk) fun v h'=>v=.tuple [.agg (Bh (Ee e).1),I (Ee e).2]/\Ext h h':=by
  intro l er Q kk aj A x5 g5 hl he;have fl:(Bh l).length=44:=by rw[Be,hl]
  refine Ok.st (Bh l) g5 rfl (by show Gk (Bh l)=44;rw[Bc,fl]) (Bm (by rw[zl];exact fl.symm)) ?_;have g6:(Q.put (h.next+1) (.cells (Bh l) 165)).get (h.next+1)=some (.cells (Bh l) 165):=Af _ _ _;rw[aj,Gg g6 A65.1 A65.2 fl,<-he];exact .ret ⟨rfl,x5.Ar (.inr (by omega)) (A _ _ g5) _⟩
 rw[Db m rfl,Ai X];simp only[Ia];refine(A3z (K:=K) w).An ?_;rintro _ h2 ⟨rfl,U⟩;have C:=U.hb G;have Y:=x1.trans U;have m:=U.at G m;have d:=U.at G d;have g4:=U.at G g4;have n2:h.next+3<=h2.next:=by have:=U.next;omega
 unfold Ee at fin⊢;cases hr:erB e with
 | false=>
  rw[hr]at fin;simp only[Aa,ak,bD]at fin⊢;rw[Db g4 rfl,Ai zl];simp only[Ia];exact fin Aau 10 h2 _ (fun _=>rfl) C Y d rfl rfl
 | true=>
 rw[hr]at fin;simp only[Aa,bM,Ah5]at fin⊢;obtain⟨⟨a1,b1⟩,⟨a2,b2⟩,⟨a3,b3⟩,⟨a4,b4⟩,⟨a5,b5⟩,_⟩:=Bg7 hr;have p0:A58 (h2.new (.cells [.Ao,.bool false] 233)) h2.next 233 [] false:=⟨.Ao,0,Ad _ _,.nil _ _ _ _,fun y=>absurd y (bS _)⟩
 have V:Ext h2 (h2.new (.cells [.Ao,.bool false] 233)):=Av.new _ _;have m:=V.at C m;have d:=V.at C d;have g4:=V.at C g4;have D:=V.hb C;have Z:=Y.trans V;generalize h2.new (.cells [.Ao,.bool false] 233)=h3 at p0 V m d g4 D Z⊢;generalize hP:h2.next=P at p0 n2⊢
 have up:∀{W hc:Ab},Ext h W->Av (fun i=>P<=i) W hc->Ext h hc:=fun x c=>x.then c fun j hj hl=>by
  have hj:P<=j:=hj;omega
 have u:∀{W hc:Ab} {i:Nat} {o:Ec},Av (fun i=>P<=i) W hc->HB W->W.get i=some o->i<P->hc.get i=some o:=fun c hb g hi=>c.at hb g (by omega)
 rw[C8 m rfl,l1];simp only[Ia];refine(Oa (K:=K) (w:=6) (by omega) p0 D (by simp) (by decide) (by decide) (v:=e.first) (by omega)).An ?_;rintro _ Q ⟨p,c,A⟩;rw[Ac6 (b:=281474976710655) a1 b1 (by decide),aG rfl]at p;have x5:=up Z c;have m:=u c D m (by omega);have d:=u c D d (by omega);have g4:=u c D g4 (by omega);rw[C8 m rfl,l2];simp only[Ia];refine(Oa (K:=K) (w:=1) (by omega) p A (by simp[H6]) (by decide) (by decide) (v:=e.count) (by omega)).An ?_;rintro _ h6 ⟨p,c,H⟩;rw[Ac6 (b:=4) (by omega) b4 (by decide),aG rfl]at p;have x6:=up x5 c;have m:=u c A m (by omega);have d:=u c A d (by omega);have g4:=u c A g4 (by omega);rw[C8 m rfl,l3];simp only[Ia];refine(Oa (K:=K) (w:=1) (by omega) p H (by simp[H6]) (by decide) (by decide) (v:=e.block) (by omega)).An ?_;rintro _ h7 ⟨p,c,J⟩;rw[Ac6 (b:=255) a2 b2 (by decide),aG rfl]at p;have x7:=up x6 c;have m:=u c H m (by omega);have d:=u c H d (by omega);have g4:=u c H g4 (by omega);rw[C8 m rfl,l4];simp only[Ia];refine(Oa (K:=K) (w:=2) (by omega) p J (by simp[H6]) (by decide) (by decide) (v:=e.many) (by omega)).An ?_;rintro _ h8 ⟨p,c,L⟩;rw[Ac6 (b:=256) a5 b5 (by decide),aG rfl]at p;have x8:=up x7 c;have m:=u c J m (by omega);have d:=u c J d (by omega);have g4:=u c J g4 (by omega);rw[C8 m rfl,l5];simp only[Ia];refine(Oa (K:=K) (w:=2) (by omega) p L (by simp[H6]) (by decide) (by decide) (v:=e.Ba) (by omega)).An ?_;rintro _ h9 ⟨p,c,S⟩;rw[Ac6 (b:=65535) a3 b3 (by decide),aG rfl]at p;have x9:=up x8 c;have m:=u c L m (by omega);have d:=u c L d (by omega);have g4:=u c L g4 (by omega)
 try simp only[Aa]
 rw[show ∀k:EV->R,Uk 32 1 (.ptr h.next 6) none none none k=k (.slice h.next 6 32 32 false)from fun k=>rfl];have aq:N9 h9 1 32 (.slice h.next 6 32 32 false)=some (Bh e.bytes):=by
  show Ab4 h9 h.next 6 32=_
  unfold Ab4 Az3;rw[m];show Oy e.cells 6 32=_;rw[Fw (by rw[X];decide)];show some (List.take 32 (Bh e.bytes))=_;rw[bR (by rw[Be,w.len];decide)]
 refine(Ayz (K:=K) (n:=32) p S (by simp[H6]) rfl (by decide) (by decide) aq w.len).An ?_;rintro _ bw ⟨p,c,E⟩;have au:=up x9 c;have d:=u c S d (by omega);have g4:=u c S g4 (by omega);have ep:([]++Zz 6 e.first.toNat++Zz 1 e.count.toNat++Zz 1 e.block.toNat++Zz 2 e.many.toNat++Zz 2 e.Ba.toNat++e.bytes)=Ab2 e:=by
  unfold Ab2;rw[dS]
 have ab:∀b:Bool,(b||!true)=b:=by decide
 rw[ep]at p;simp only[ab]at p;have B:=A69 w;refine(A33 (K:=K) p E (by rw[B];decide)).An ?_;rintro _ T ⟨y,q',rfl,ry,F,M,lq⟩;have d:=F.at E d;have g4:=F.at E g4;have ad:=au.trans F;simp only[Aa];rw[show ∀k:EV->R,Uk 44 1 (.ptr (h.next+2) 0) none none none k=k (.slice (h.next+2) 0 44 44 false)from fun k=>rfl];have ae:=ry.bs (by rw[B];decide);have hlen:=ae.len;have O:=ae.cells;rw[B]at hlen O;have af:=A87 (h:=T) (i:=h.next+2) (n:=44) (r:=44) (op:=false) (t:=165) (hd:=[]) (By:=Bh Aau) g4 hlen (by decide) O (by rw[Be,B]) zl;rw[show([]:List EV).length=0 from rfl,dS]at af;rw[af,As];have ag:=M _ _ g4;have g4:(T.put (h.next+2) (.cells (Bh (Ab2 e)) 165)).get (h.next+2)=some (.cells (Bh (Ab2 e)) 165):=Af _ _ _;have d:(T.put (h.next+2) (.cells (Bh (Ab2 e)) 165)).get (h.next+1)=some (.cells (Bh Aau) 165):=by rw[Ag _];exact d
 rw[Db g4 rfl,Ai (by rw[Be,B])];simp only[Ia];exact fin (Ab2 e) 0 _ _ (fun _=>rfl) (M.put ag _) (ad.Ar (.inr (by omega)) ag _) d B rfl
theorem Bf3(a b c d e:Int){l:List EV}(g:l.length=44):Afp (Ed [(0,1),(1,1),(2,1),(3,1),(4,1),(5,44)]) [(0,I a),(1,I b),(2,I c),(3,I d),(4,I e),(5,.agg l)] Fr.zero.cells=some ([I a,I b,I c,I d,I e]++l):=by
 have hs:=Ao1 [I a,I b,I c,I d,I e] (Bh (List.replicate 44 0)) l (by rw[Be,bQ,g]);rw[<-Aab]at hs;show Bf (Nat.beq (Gk l) 44) (oB (fun z=>some z) (O0 ([I a,I b,I c,I d,I e]++Bh (List.replicate 44 0)) 5 l)) none=_;rw[Bc,g,cO,Ak];rw[show(5:Nat) = [I a,I b,I c,I d,I e].length from rfl,hs];rfl
def E9(e:En)(Aj off Ap seq:Int):Fr × Int:=
 if erB e=true/\frB ⟨e.kind,Aj,off,Ap,seq,(Ee e).1⟩=true/\e.first<=seq/\seq-e.count<e.first then(⟨e.kind,Aj,off,Ap,seq,(Ee e).1⟩,0)else(Fr.zero,10)
theorem A06(w:e.Wf)(Aj off Ap seq:Int):(E9 e Aj off Ap seq).1.Wf:=by
 unfold E9;split
 ·exact⟨Aoh w,Bbo w⟩
 ·exact Fr.Ie
theorem Aji(w:e.Wf)(hb:HB h)(hK:10000<K)(Aj off Ap seq:Int):
 Ok (Mg K (.agg e.cells) (I Aj) (I off) (I Ap) (I seq) h) fun v h'=>v=.tuple [.agg (E9 e Aj off Ap seq).1.cells,I (E9 e Aj off Ap seq).2]/\Ext h h':=by
 have l0:e.cells[0]? = some (I e.kind):=rfl;have l1:e.cells[1]? = some (I e.first):=rfl;have l2:e.cells[2]? = some (I e.count):=rfl;have aa:=En.Br w;have zl:=Fr.Br Fr.Ie;have E:(⟨e.kind,Aj,off,Ap,seq,(Ee e).1⟩:Fr).Wf:=⟨Aoh w,Bbo w⟩;have fl:=Fr.Br E;simp only[Mg,Aa];rw[Fr.Js];have x1:Ext h ((h.new (.cells e.cells 131)).new (.cells Fr.zero.cells 167)):=(Av.new _ _).Ds _;have g5:((h.new (.cells e.cells 131)).new (.cells Fr.zero.cells 167)).get h.next=some (.cells e.cells 131):=by
  rw[Az _ (aL _)];exact Ad _ _
 have d:((h.new (.cells e.cells 131)).new (.cells Fr.zero.cells 167)).get (h.next+1)=some (.cells Fr.zero.cells 167):=Ad _ _;have n1:((h.new (.cells e.cells 131)).new (.cells Fr.zero.cells 167)).next=h.next+2:=rfl
 rw[show(h.new (.cells e.cells 131)).next=h.next+1 from rfl];generalize (h.new (.cells e.cells 131)).new (.cells Fr.zero.cells 167)=h1 at x1 g5 d n1⊢;have B:=x1.hb hb;have fin:∀(f:Fr) (er:Int) (o:Ab) (kk:Ab->R),(∀h',kk h'=Ji TT [.c (.ptr (h.next+1) 0) 167,.v (I er)] h')->HB o->Ext h o->o.get (h.next+1)=some (.cells Fr.zero.cells 167)->f.Wf->(f,er)=E9 e Aj off Ap seq ->
  Ok (stE 49 (.ptr (h.next+1) 0) (.agg f.cells) o kk) fun v h'=>v=.tuple [.agg (E9 e Aj off Ap seq).1.cells,I (E9 e Aj off Ap seq).2]/\Ext h h':=by
  intro f er o kk ae u F g5 wf he;have fl:=Fr.Br wf;refine Ok.st f.cells g5 rfl (by show Gk f.cells=49;rw[Bc,fl]) (Bm (by rw[zl];exact fl.symm)) ?_;have g6:(o.put (h.next+1) (.cells f.cells 167)).get (h.next+1)=some (.cells f.cells 167):=Af _ _ _;rw[ae,Gg g6 A7w.1 A7w.2 fl,<-he];exact .ret ⟨rfl,F.Ar (.inr (by omega)) (u _ _ g5) _⟩
 rw[Db g5 rfl,Ai aa];simp only[Ia];refine(Awo (K:=K) w B hK).An ?_;rintro _ h2 ⟨rfl,M⟩;have G:=M.hb B;have af:=x1.trans M;have g5:=M.at B g5;have d:=M.at B d;have n2:h.next+2<=h2.next:=by have:=M.next;omega
 simp only[Aa];rw[Awz];have O:Ext h2 (h2.new (.cells (Bh Aau) 165)):=Av.new _ _;have j:(h2.new (.cells (Bh Aau) 165)).get h2.next=some (.cells (Bh Aau) 165):=Ad _ _
 have g5:=O.at G g5;have d:=O.at G d;have H:=O.hb G;have S:=af.trans O;have n3:(h2.new (.cells (Bh Aau) 165)).next=h2.next+1:=rfl
 generalize h2.new (.cells (Bh Aau) 165)=L at O j g5 d H S n3⊢;generalize h2.next=P at j n2 n3⊢
 have bl:(Bh (Ee e).1).length=44:=by rw[Be,Aoh w]
 refine Ok.st (Bh (Ee e).1) j rfl (by show Gk (Bh (Ee e).1)=44;rw[Bc,bl]) (Bm (by rw[Be];exact bl.symm)) ?_;have T:=H _ _ j;have j:(L.put P (.cells (Bh (Ee e).1) 165)).get P=some (.cells (Bh (Ee e).1) 165):=Af _ _ _;have g5:(L.put P (.cells (Bh (Ee e).1) 165)).get h.next=some (.cells e.cells 131):=by rw[Ag _];exact g5
 have d:(L.put P (.cells (Bh (Ee e).1) 165)).get (h.next+1)=some (.cells Fr.zero.cells 167):=by rw[Ag _];exact d
 have x4:Ext h (L.put P (.cells (Bh (Ee e).1) 165)):=S.Ar (.inr (by omega)) T _;have C:=H.put T (.cells (Bh (Ee e).1) 165);have n4:(L.put P (.cells (Bh (Ee e).1) 165)).next=P+1:=n3
 generalize L.put P (.cells (Bh (Ee e).1) 165)=h4 at j g5 d x4 C n4⊢
 try simp only[Aa]
 rw[C8 g5 rfl,l0];simp only[Ia];rw[Db j rfl,Ai bl];simp only[Ia]
 try rw[Fr.Js]
 rw[Ay (Bf3 e.kind Aj off Ap seq bl)]
 try simp only[Aa]
 have F:Ext h4 (h4.new (.cells Fr.zero.cells 167)):=Av.new _ _;have g:(h4.new (.cells Fr.zero.cells 167)).get h4.next=some (.cells Fr.zero.cells 167):=Ad _ _
 have g5:=F.at C g5;have d:=F.at C d;have u:=F.hb C;have U:=x4.trans F;generalize h4.new (.cells Fr.zero.cells 167)=o at F g g5 d u U⊢;generalize h4.next=Q at g n4⊢
 refine Ok.st (⟨e.kind,Aj,off,Ap,seq,(Ee e).1⟩:Fr).cells g rfl (by show Gk (⟨e.kind,Aj,off,Ap,seq,(Ee e).1⟩:Fr).cells=49;rw[Bc,fl]) (Bm (by rw[zl];exact fl.symm)) ?_;have V:=u _ _ g;have g:(o.put Q (.cells (⟨e.kind,Aj,off,Ap,seq,(Ee e).1⟩:Fr).cells 167)).get Q=some (.cells (⟨e.kind,Aj,off,Ap,seq,(Ee e).1⟩:Fr).cells 167):=Af _ _ _;have g5:(o.put Q (.cells (⟨e.kind,Aj,off,Ap,seq,(Ee e).1⟩:Fr).cells 167)).get h.next=some (.cells e.cells 131):=by rw[Ag _];exact g5
 have d:(o.put Q (.cells (⟨e.kind,Aj,off,Ap,seq,(Ee e).1⟩:Fr).cells 167)).get (h.next+1)=some (.cells Fr.zero.cells 167):=by rw[Ag _];exact d
 have x6:Ext h (o.put Q (.cells (⟨e.kind,Aj,off,Ap,seq,(Ee e).1⟩:Fr).cells 167)):=U.Ar (.inr (by omega)) V _;have m:=u.put V (.cells (⟨e.kind,Aj,off,Ap,seq,(Ee e).1⟩:Fr).cells 167);generalize o.put Q (.cells (⟨e.kind,Aj,off,Ap,seq,(Ee e).1⟩:Fr).cells 167)=h6 at g g5 d x6 m⊢;have ah:(Ee e).2=if erB e=true then 0 else 10:=by unfold Ee;split<;>rfl
 rw[ah];unfold E9 at fin⊢;generalize ai:(⟨e.kind,Aj,off,Ap,seq,(Ee e).1⟩:Fr)=f at fin E fl g⊢;have no:∀D:Ab,Ext h6 D->¬(erB e=true/\frB f=true/\e.first<=seq/\seq-e.count<e.first)->Ok (Bv (Ed [(0,1),(1,1),(2,1),(3,1),(4,1),(5,44)]) Fr.zero.cells [] fun aj=>stE 49 (.ptr (h.next+1) 0) aj D fun z=>Ji TT [.c (.ptr (h.next+1) 0) 167,.v (.int .i64 10)] z) _:=fun D A al=>by
  rw[Ay (l:=Fr.zero.cells) rfl];exact fin Fr.zero 10 D _ (fun _=>rfl) (A.hb m) (x6.trans A) (A.at m d) Fr.Ie (by rw[aF al])
 simp only[I,Ac];by_cases W:erB e=true
 ·rw[aG W]
  simp only[aD,aA,Aa];rw[Db g rfl,Ai fl];simp only[Ia];refine(Ajh (K:=K) f).An ?_;rintro _ D ⟨rfl,A⟩;have g5:=A.at m g5;cases Z:frB f with
  | false=>
   simp only[Aa,Ac,Pg,Ly,Iu];have r:=no D A (by rw[Z];simp);rw[Z]at r;exact r
  | true=>
   have J:=Z;rw[<-ai]at J;simp only[frB,aR]at J;have a0:=Fl.1 J.2.2.2.2;have a1:=(Bg7 W).2.2.2.1;have rr:=no D A;have rf:=fin f 0 D (fun z=>Ji TT [RV.c (EV.ptr (h.next+1) 0) 167,RV.v (EV.int IntKind.i64 0)] z) (fun _=>rfl) (A.hb m) (x6.trans A) (A.at m d) E;rw[Z]at rr rf;simp only[eq_self]at rr rf;simp only[Aa,Ac,Pg];rw[C8 g5 rfl,l1];simp only[Ia,I,Ac];by_cases X:seq<e.first
   ·rw[show decide (seq<e.first)=true from aM X]
    simp only[Aa,Ac,Ly,Iu];exact rr fun y=>by omega
   ·rw[show decide (seq<e.first)=false from aP X]
    simp only[Aa,Ac,Ly];rw[C8 g5 rfl,l1];simp only[Ia];rw[C8 g5 rfl,l2];simp only[Ia,I,Ac];rw[Cj];by_cases Y:e.first<=seq-e.count
    ·rw[show decide (e.first<=seq-e.count)=true from aM Y]
     simp only[Aa,Ac,Iu];exact rr fun y=>by omega
    ·rw[show decide (e.first<=seq-e.count)=false from aP Y]
     simp only[Aa,Ac,Iu,Af5];rw[Db (A.at m g) rfl,Ai fl];exact rf (by rw[aG ⟨W,trivial,by omega,by omega⟩])
 ·rw[aF W]
  simp only[show ¬((10:Int)=0) by decide,aN,aB,Aa,Ac,Pg,Ly,Iu];exact no h6 (Av.refl _) fun y=>W y.1
def En.zero:En:=⟨0,0,0,0,0,0,Dp⟩
theorem En.Js:List.replicate 6 (EV.int .i64 0)++List.replicate 32 (EV.int .u8 0)=En.zero.cells:=by kernel_rfl
theorem En.Ie:En.zero.Wf:=⟨rfl,fun b hb=>by rw[bP hb];decide⟩
theorem Bh2:TT.size 131=some 38/\TT.agg 131=some true:=⟨by kernel_rfl,by kernel_rfl⟩
def Ae3(kind:Int)(p:List Nat):En:=⟨kind,leV (p.take 6),leV ((p.drop 6).take 1),leV (((p.drop 6).drop 1).take 1),leV ((((p.drop 6).drop 1).drop 1).take 2),leV (((((p.drop 6).drop 1).drop 1).drop 2).take 2),((((((p.drop 6).drop 1).drop 1).drop 2).drop 2).take 32)⟩
theorem A5l(hp:p.length=44)(hu:∀b∈p,b<256):(Ae3 kind p).Wf:=by
 refine⟨?_,fun b hb=>hu b ?_⟩
 ·simp only[Ae3,cD,bW,hp];decide
 ·simp only[Ae3]at hb
  exact aU (aU (aU (aU (aU (b9 hb)))))
def ofF(kind:Int)(p:List Nat):En × Int:=
 if(Ee (Ae3 kind p)).2=0/\(Ee (Ae3 kind p)).1=p then(Ae3 kind p,0)else(En.zero,10)
theorem Bne(hp:p.length=44)(hu:∀b∈p,b<256):(ofF kind p).1.Wf:=by
 unfold ofF;split
 ·exact A5l hp hu
 ·exact En.Ie
theorem Bhs(k:Int)(a b c d e:Nat):Afp (Ed [(0,1),(1,1),(2,1),(3,1),(4,1),(5,1),(6,32)]) [(0,I k),(1,Nk .i64 a),(2,Nk .i64 b),(3,Nk .i64 c),(4,Nk .i64 d),(5,Nk .i64 e)] En.zero.cells=some ([I k,Nk .i64 a,Nk .i64 b,Nk .i64 c,Nk .i64 d,Nk .i64 e]++Bh Dp):=rfl
theorem Bcq(hp:p.length=44)(hu:∀b∈p,b<256)(hb:HB h)(hK:10000<K)(kind:Int):
 Ok (Ayl K (I kind) (.agg (Bh p)) h) fun v h'=>v=.tuple [.agg (ofF kind p).1.cells,I (ofF kind p).2]/\Ext h h':=by
 have zl:=En.Br En.Ie;have ul:(Bh p).length=44:=by rw[Be,hp]
 simp only[Ayl,Aa];rw[En.Js];have x1:Ext h ((h.new (.cells (Bh p) 165)).new (.cells En.zero.cells 131)):=(Av.new _ _).Ds _;have d:((h.new (.cells (Bh p) 165)).new (.cells En.zero.cells 131)).get h.next=some (.cells (Bh p) 165):=by
  rw[Az _ (aL _)];exact Ad _ _
 have g4:((h.new (.cells (Bh p) 165)).new (.cells En.zero.cells 131)).get (h.next+1)=some (.cells En.zero.cells 131):=Ad _ _;have n1:((h.new (.cells (Bh p) 165)).new (.cells En.zero.cells 131)).next=h.next+2:=rfl
 rw[show(h.new (.cells (Bh p) 165)).next=h.next+1 from rfl];generalize (h.new (.cells (Bh p) 165)).new (.cells En.zero.cells 131)=h1 at x1 d g4 n1⊢;have a3:=x1.hb hb;have wfE:=A5l (kind:=kind) hp hu;have fin:∀(e:En) (er:Int) (h5:Ab) (kk:Ab->R),(∀h',kk h'=Ji TT [.c (.ptr (h.next+1) 0) 131,.v (I er)] h')->HB h5->Ext h h5->h5.get (h.next+1)=some (.cells En.zero.cells 131)->e.Wf->(e,er)=ofF kind p ->
  Ok (stE 38 (.ptr (h.next+1) 0) (.agg e.cells) h5 kk) fun v h'=>v=.tuple [.agg (ofF kind p).1.cells,I (ofF kind p).2]/\Ext h h':=by
  intro e er h5 kk cv W x5 g5 wf he;have fl:=En.Br wf;refine Ok.st e.cells g5 rfl (by show Gk e.cells=38;rw[Bc,fl]) (Bm (by rw[zl];exact fl.symm)) ?_;have g6:(h5.put (h.next+1) (.cells e.cells 131)).get (h.next+1)=some (.cells e.cells 131):=Af _ _ _;rw[cv,Gg g6 Bh2.1 Bh2.2 fl,<-he];exact .ret ⟨rfl,x5.Ar (.inr (by omega)) (W _ _ g5) _⟩
 rw[show ∀k:EV->R,Uk 44 1 (.ptr h.next 0) none none none k=k (.slice h.next 0 44 44 false)from fun k=>rfl];have bs:Bs h1 (.slice h.next 0 44 44 false) h.next 0 p:=by
  refine⟨44,false,_,Bh p,by rw[hp],by omega,d,rfl,by rw[ul];omega,?_⟩;rw[dC,hp,<-ul,cN]
 refine(Az7 (K:=K) bs a3 (by omega) (by omega)).An ?_;rintro _ h5 ⟨Rr,q,rfl,d0,x5,W,dx⟩;have d:=x5.at a3 d;have g4:=x5.at a3 g4;have cw:=x1.trans x5;have dy:Rr<h5.next:=by obtain⟨_,g,_⟩:=d0.Qu;exact W _ _ g
 have ea:h.next+1<Rr:=by have:=d0.ne;omega
 have up:∀{X hc:Ab},Ext h X->Av (fun i=>i=Rr) X hc->Ext h hc:=fun x c=>x.then c fun j hj cx=>by
  have hj:j=Rr:=hj;omega
 have Gx:∀{X hc:Ab} {i:Nat} {o:Ec},Av (fun i=>i=Rr) X hc->HB X->X.get i=some o->i≠Rr->hc.get i=some o:=fun c hb g hi=>c.at hb g hi
 refine(Akh (K:=K) (w:=6) d0 W (by omega) (by decide) (by decide) (by omega) hu).An ?_;rintro _ h6 ⟨rfl,d1,c6,a6⟩;have d:=Gx c6 W d (by omega);have g4:=Gx c6 W g4 (by omega);have x6:=up cw c6;refine(Akh (K:=K) (w:=1) d1 a6 (by omega) (by decide) (by decide) (by simp only[bW];omega) (fun b hb=>hu b (aU hb))).An ?_;rintro _ h7 ⟨rfl,d2,c7,a7⟩;have d:=Gx c7 a6 d (by omega);have g4:=Gx c7 a6 g4 (by omega);have x7:=up x6 c7;refine(Akh (K:=K) (w:=1) d2 a7 (by omega) (by decide) (by decide) (by simp only[bW];omega) (fun b hb=>hu b (aU (aU hb)))).An ?_;rintro _ h8 ⟨rfl,d3,c8,ba⟩;have d:=Gx c8 a7 d (by omega);have g4:=Gx c8 a7 g4 (by omega);have x8:=up x7 c8;refine(Akh (K:=K) (w:=2) d3 ba (by omega) (by decide) (by decide) (by simp only[bW];omega) (fun b hb=>hu b (aU (aU (aU hb))))).An ?_;rintro _ h9 ⟨rfl,d4,c9,bb⟩;have d:=Gx c9 ba d (by omega);have g4:=Gx c9 ba g4 (by omega);have x9:=up x8 c9;refine(Akh (K:=K) (w:=2) d4 bb (by omega) (by decide) (by decide) (by simp only[bW];omega) (fun b hb=>hu b (aU (aU (aU (aU hb)))))).An ?_;rintro _ L ⟨rfl,d5,aq,U⟩;have d:=Gx aq bb d (by omega);have g4:=Gx aq bb g4 (by omega);have cz:=up x9 aq
 try rw[En.Js]
 rw[Ay (Bhs kind _ _ _ _ _)]
 try simp only[Aa]
 have Y:Ext L (L.new (.cells En.zero.cells 131)):=Av.new _ _;have F:(L.new (.cells En.zero.cells 131)).get L.next=some (.cells En.zero.cells 131):=Ad _ _
 have bp:(L.new (.cells En.zero.cells 131)).next=L.next+1:=rfl
 have d:=Y.at U d;have g4:=Y.at U g4;have G:=Y.hb U;have d5:=d5.ext U Y;have bt:=cz.trans Y;have hF:Rr<L.next:=by have:=c6.next;have:=c7.next;have:=c8.next;have:=c9.next;have:=aq.next;omega
 generalize L.new (.cells En.zero.cells 131)=ad at Y F bp d g4 G d5 bt⊢;generalize L.next=M at F bp hF⊢
 have D:(((((p.drop 6).drop 1).drop 1).drop 2).drop 2).length=32:=by simp only[bW];omega
 unfold ofF Ae3 at fin⊢;unfold Ae3 at wfE;generalize (((((p.drop 6).drop 1).drop 1).drop 2).drop 2)=body at d5 D fin wfE⊢;generalize leV (p.take 6)=m at fin wfE⊢;generalize leV ((p.drop 6).take 1)=u at fin wfE⊢;generalize leV (((p.drop 6).drop 1).take 1)=A at fin wfE⊢;generalize leV ((((p.drop 6).drop 1).drop 1).take 2)=B at fin wfE⊢;generalize leV (((((p.drop 6).drop 1).drop 1).drop 2).take 2)=C at fin wfE⊢;have bu:body.take 32=body:=bR (by omega);rw[bu]at fin wfE⊢;have az:([I kind,Nk .i64 m,Nk .i64 u,Nk .i64 A,Nk .i64 B,Nk .i64 C]++Bh Dp).length=38:=by rw[aH,Be];rfl
 refine Ok.st ([I kind,Nk .i64 m,Nk .i64 u,Nk .i64 A,Nk .i64 B,Nk .i64 C]++Bh Dp) F rfl (by show Gk ([I kind,Nk .i64 m,Nk .i64 u,Nk .i64 A,Nk .i64 B,Nk .i64 C]++Bh Dp)=38;rw[Bc,az]) (Bm (by rw[zl];exact az.symm)) ?_;have lF:=G _ _ F;have ae:Av (fun i=>i=M) ad (ad.put M (.cells ([I kind,Nk .i64 m,Nk .i64 u,Nk .i64 A,Nk .i64 B,Nk .i64 C]++Bh Dp) 131)):=(Av.refl (S:=fun i=>i=M) ad).Ar (.inl rfl) lF _;have F:(ad.put M (.cells ([I kind,Nk .i64 m,Nk .i64 u,Nk .i64 A,Nk .i64 B,Nk .i64 C]++Bh Dp) 131)).get M=some (.cells ([I kind,Nk .i64 m,Nk .i64 u,Nk .i64 A,Nk .i64 B,Nk .i64 C]++Bh Dp) 131):=Af _ _ _;have H:=G.put lF (.cells ([I kind,Nk .i64 m,Nk .i64 u,Nk .i64 A,Nk .i64 B,Nk .i64 C]++Bh Dp) 131);generalize ad.put M (.cells ([I kind,Nk .i64 m,Nk .i64 u,Nk .i64 A,Nk .i64 B,Nk .i64 C]++Bh Dp) 131)=cG at ae F H⊢;have bw:∀{X hc:Ab},Ext h X->Av (fun i=>i=M) X hc->Ext h hc:=fun x c=>x.then c fun j hj cx=>by
  have hj:j=M:=hj;omega
 have O:∀{X hc:Ab} {i:Nat} {o:Ec},Av (fun i=>i=M) X hc->HB X->X.get i=some o->i≠M->hc.get i=some o:=fun c hb g hi=>c.at hb g hi
 have d:=O ae G d (by omega);have g4:=O ae G g4 (by omega);have d5:=d5.chg G ae (by have:=d5.ne;intro y;omega) (by intro y;omega);have cT:=bw bt ae
 try simp only[Aa]
 rw[show ∀k:EV->R,Uk 32 1 (.ptr M 6) none none none k=k (.slice M 6 32 32 false)from fun k=>rfl];have dl:Rd cG.lift Rr q (0+6+1+1+2+2) body:=d5.chg H (S:=fun _=>False) ⟨fun i _ _=>Ci _ _,aE _,fun w _ w2 _=>w2,fun y=>D4 y⟩ id id;refine Ok.bC (S:=fun i=>i=Rr) (Bec (K:=K) (n:=32) dl (D4 H) (by decide) (by omega)) (fun _ _ p=>p.2.2.1) ?_;rintro bx di af s' ⟨ag,_,_,bf⟩ a0 au bj;have V:=a0.hb bf;have ag:=ag.frame (a0.get _);rw[bu]at ag;have d:=Gx au H d (by omega);have g4:=Gx au H g4 (by omega);have F:=Gx au H F (by omega);have c0:=up cT au;have hlen:lenOf bx=some 32:=by have:=ag.len;rw[D]at this;exact this
 have bz:N9 af.lift 1 32 bx=some (Bh body):=by have:=ag.lift.cells;rw[D]at this;exact this
 have c5:=A87 (h:=af.lift) (i:=M) (n:=32) (r:=32) (op:=false) (t:=131) (hd:=[I kind,Nk .i64 m,Nk .i64 u,Nk .i64 A,Nk .i64 B,Nk .i64 C]) (By:=Bh Dp) (by rw[Ci];exact F) hlen (by decide) bz (by rw[Be,D]) (by rw[Be];rfl);have b5:=V _ _ F;refine Ok.Bpc (S:=fun i=>i=M) (by rcases bj with rfl|⟨w,rfl,_⟩<;>kernel_rfl) (by rcases bj with rfl|⟨w,rfl,_⟩<;>kernel_rfl) (fun w=>by rcases bj with rfl|⟨w,rfl,_⟩<;>kernel_rfl) (P:=fun v h'=>h'=af.lift.put M (.cells ([I kind,Nk .i64 m,Nk .i64 u,Nk .i64 A,Nk .i64 B,Nk .i64 C]++Bh body) 131)) ⟨_,_,c5,rfl⟩ (fun _ _ p=>by rw[p];exact(Av.refl (S:=fun i=>i=M) af.lift).Ar (.inl rfl) (show M<af.lift.next from b5) _) ?_;rintro eg dj da s2 rfl b6 aw _;have Q:=aw.hb V;have F:da.get M=some (.cells (⟨kind,m,u,A,B,C,body⟩:En).cells 131):=by rw[b6.get];exact Af _ _ _
 have d:=O aw V d (by omega);have g4:=O aw V g4 (by omega);have db:=bw c0 aw;generalize hE:(⟨kind,m,u,A,B,C,body⟩:En)=E at fin wfE F⊢;have el:=En.Br wfE;rw[Db F rfl,Ai el];simp only[Ia];refine(Awo (K:=K) wfE Q hK).An ?_;rintro _ T ⟨rfl,ah⟩;have J:=ah.hb Q;have d:=ah.at Q d;have g4:=ah.at Q g4;have F:=ah.at Q F;have a1:=db.trans ah;have b7:=J _ _ F
 try simp only[Aa]
 rw[Awz];have Z:Ext T (T.new (.cells (Bh Aau) 165)):=Av.new _ _;have g8:(T.new (.cells (Bh Aau) 165)).get T.next=some (.cells (Bh Aau) 165):=Ad _ _
 have d:=Z.at J d;have g4:=Z.at J g4;have F:=Z.at J F;have ai:=Z.hb J;have a2:=a1.trans Z;have b8:h.next+2<=T.next:=by have:=x1.next;have:=a1.next;have:=J _ _ (by assumption:T.get (h.next+1)=some (.cells En.zero.cells 131));omega
 generalize T.new (.cells (Bh Aau) 165)=aa at Z g8 d g4 F ai a2⊢;generalize T.next=P at g8 b7 b8⊢
 have bl:(Bh (Ee E).1).length=44:=by rw[Be,Aoh wfE]
 refine Ok.st (Bh (Ee E).1) g8 rfl (by show Gk (Bh (Ee E).1)=44;rw[Bc,bl]) (Bm (by rw[Be];exact bl.symm)) ?_;have l8:=ai _ _ g8;have g8:(aa.put P (.cells (Bh (Ee E).1) 165)).get P=some (.cells (Bh (Ee E).1) 165):=Af _ _ _;have d:(aa.put P (.cells (Bh (Ee E).1) 165)).get h.next=some (.cells (Bh p) 165):=by rw[Ag _];exact d
 have g4:(aa.put P (.cells (Bh (Ee E).1) 165)).get (h.next+1)=some (.cells En.zero.cells 131):=by rw[Ag _];exact g4
 have F:(aa.put P (.cells (Bh (Ee E).1) 165)).get M=some (.cells E.cells 131):=by rw[Ag _];exact F
 have aj:Ext h (aa.put P (.cells (Bh (Ee E).1) 165)):=a2.Ar (.inr (by omega)) l8 _;have al:=ai.put l8 (.cells (Bh (Ee E).1) 165);generalize aa.put P (.cells (Bh (Ee E).1) 165)=bn at g8 d g4 F aj al⊢;simp only[I,Ac];have no:¬((Ee E).2=0/\(Ee E).1=p)->Ok (Bv (Ed [(0,1),(1,1),(2,1),(3,1),(4,1),(5,1),(6,32)]) En.zero.cells [] fun de=>stE 38 (.ptr (h.next+1) 0) de bn fun z=>Ji TT [.c (.ptr (h.next+1) 0) 131,.v (.int .i64 10)] z) _:=fun df=>by
  rw[Ay (l:=En.zero.cells) rfl];exact fin En.zero 10 bn _ (fun _=>rfl) al aj g4 En.Ie (by rw[aF df])
 by_cases h0:(Ee E).2=0
 ·rw[show decide (¬(Ee E).2=0)=false from aP fun y=>y h0]
  simp only[Aa];rw[Db g8 rfl,Ai bl];simp only[Ia];rw[Db d rfl,Ai ul];simp only[Ia];rw[A73 Btx (Aoh wfE) hp];by_cases ax:(Ee E).1=p
  ·rw[show decide (¬(Ee E).1=p)=false from aP fun y=>y ax]
   simp only[Ams,Aa,A2a];rw[Db F rfl,Ai el];exact fin E 0 bn _ (fun _=>rfl) al aj g4 wfE (by rw[aG ⟨h0,ax⟩])
  ·rw[show decide (¬(Ee E).1=p)=true from aM ax]
   simp only[Ams,Aa];exact no fun y=>ax y.2
 ·rw[show decide (¬(Ee E).2=0)=true from aM h0]
  simp only[Aa,Ams];exact no fun y=>h0 y.1
def Aae(f:Fr):En × Int:=
 if ¬(ofF f.kind f.body).2=0 then(En.zero,(ofF f.kind f.body).2)else
 if ¬(E9 (ofF f.kind f.body).1 f.Aj f.off f.Ap f.seq).2=0 then(En.zero,(E9 (ofF f.kind f.body).1 f.Aj f.off f.Ap f.seq).2)else((ofF f.kind f.body).1,0)
theorem A6u(w:f.Wf)(hb:HB h)(W:10000<K):
 Ok (Aqn K (.agg f.cells) h) fun v h'=>v=.tuple [.agg (Aae f).1.cells,I (Aae f).2]/\(Aae f).1.Wf/\Ext h h':=by
 have l0:f.cells[0]? = some (I f.kind):=rfl;have l1:f.cells[1]? = some (I f.Aj):=rfl;have X:f.cells[2]? = some (I f.off):=rfl;have Y:f.cells[3]? = some (I f.Ap):=rfl;have Z:f.cells[4]? = some (I f.seq):=rfl;have O:=Fr.Br w;have l5:Oy f.cells 5 44=some (Bh f.body):=by
  rw[Fw (by rw[O];decide)];show some (List.take 44 (Bh f.body))=_;rw[bR (by rw[Be,w.len];decide)]
 have zl:=En.Br En.Ie;have m:=Bne (kind:=f.kind) w.len w.u8;have ol:=En.Br m;simp only[Aqn,Aa];rw[En.Js];have Q:Ext h ((h.new (.cells f.cells 167)).new (.cells En.zero.cells 131)):=(Av.new _ _).Ds _;have d:((h.new (.cells f.cells 167)).new (.cells En.zero.cells 131)).get h.next=some (.cells f.cells 167):=by
  rw[Az _ (aL _)];exact Ad _ _
 have g:((h.new (.cells f.cells 167)).new (.cells En.zero.cells 131)).get (h.next+1)=some (.cells En.zero.cells 131):=Ad _ _;have n1:((h.new (.cells f.cells 167)).new (.cells En.zero.cells 131)).next=h.next+2:=rfl
 rw[show(h.new (.cells f.cells 167)).next=h.next+1 from rfl];generalize (h.new (.cells f.cells 167)).new (.cells En.zero.cells 131)=h1 at Q d g n1⊢;have o:=Q.hb hb;have fin:∀(e:En) (er:Int) (u:Ab) (S:Ab->R),(∀h',S h'=Ji TT [.c (.ptr (h.next+1) 0) 131,.v (I er)] h')->HB u->Ext h u->u.get (h.next+1)=some (.cells En.zero.cells 131)->e.Wf->(e,er)=Aae f ->
  Ok (stE 38 (.ptr (h.next+1) 0) (.agg e.cells) u S) fun v h'=>v=.tuple [.agg (Aae f).1.cells,I (Aae f).2]/\(Aae f).1.Wf/\Ext h h':=by
  intro e er u S T y C g5 wf he;have fl:=En.Br wf;refine Ok.st e.cells g5 rfl (by show Gk e.cells=38;rw[Bc,fl]) (Bm (by rw[zl];exact fl.symm)) ?_;have g6:(u.put (h.next+1) (.cells e.cells 131)).get (h.next+1)=some (.cells e.cells 131):=Af _ _ _;rw[T,Gg g6 Bh2.1 Bh2.2 fl,<-he];exact .ret ⟨rfl,wf,C.Ar (.inr (by omega)) (y _ _ g5) _⟩
 rw[C8 d rfl,l0];simp only[Ia];rw[Db d rfl,l5];simp only[Ia];refine(Bcq (K:=K) w.len w.u8 o W f.kind).An ?_;rintro _ h2 ⟨rfl,D⟩;have A:=D.hb o;have U:=Q.trans D;have d:=D.at o d;have g:=D.at o g;have n2:h.next+2<=h2.next:=by have:=D.next;omega
 try simp only[Aa]
 try rw[En.Js]
 have E:Ext h2 (h2.new (.cells En.zero.cells 131)):=Av.new _ _;have g4:(h2.new (.cells En.zero.cells 131)).get h2.next=some (.cells En.zero.cells 131):=Ad _ _
 have d:=E.at A d;have g:=E.at A g;have B:=E.hb A;have F:=U.trans E;generalize h2.new (.cells En.zero.cells 131)=G at E g4 d g B F⊢;generalize h2.next=P at g4 n2⊢
 refine Ok.st (ofF f.kind f.body).1.cells g4 rfl (by show Gk (ofF f.kind f.body).1.cells=38;rw[Bc,ol]) (Bm (by rw[zl];exact ol.symm)) ?_;have H:=B _ _ g4;have g4:(G.put P (.cells (ofF f.kind f.body).1.cells 131)).get P=some (.cells (ofF f.kind f.body).1.cells 131):=Af _ _ _;have d:(G.put P (.cells (ofF f.kind f.body).1.cells 131)).get h.next=some (.cells f.cells 167):=by rw[Ag _];exact d
 have g:(G.put P (.cells (ofF f.kind f.body).1.cells 131)).get (h.next+1)=some (.cells En.zero.cells 131):=by rw[Ag _];exact g
 have V:Ext h (G.put P (.cells (ofF f.kind f.body).1.cells 131)):=F.Ar (.inr (by omega)) H _;have j:=B.put H (.cells (ofF f.kind f.body).1.cells 131);generalize G.put P (.cells (ofF f.kind f.body).1.cells 131)=h4 at g4 d g V j⊢;unfold Aae at fin⊢;generalize (ofF f.kind f.body).2=er at fin⊢;generalize (ofF f.kind f.body).1=e at fin m ol g4⊢;simp only[I,Ac];by_cases h0:er=0
 ·subst h0
  simp only[aD,aA,Aa,bD,Awr]at fin⊢;rw[Db g4 rfl,Ai ol];simp only[Ia];rw[C8 d rfl,l1];simp only[Ia,Aa];rw[C8 d rfl,X];simp only[Ia,Aa];rw[C8 d rfl,Y];simp only[Ia,Aa];rw[C8 d rfl,Z];simp only[Ia,Aa];refine(Aji (K:=K) m j W f.Aj f.off f.Ap f.seq).An ?_;rintro _ u ⟨rfl,C⟩;have y:=C.hb j;have g:=C.at j g;have g4:=C.at j g4;have J:=V.trans C;generalize (E9 e f.Aj f.off f.Ap f.seq).2=L at fin⊢;simp only[Aa,I,Ac];by_cases M:L=0
  ·subst M
   simp only[aD,aA,Aa,bD,Awd]at fin⊢;rw[Db g4 rfl,Ai ol];exact fin e 0 u _ (fun _=>rfl) y J g m rfl
  ·simp only[M,aN,aB,Aa,bM]at fin⊢
   rw[Ay (l:=En.zero.cells) rfl];exact fin En.zero L u _ (fun _=>rfl) y J g En.Ie rfl
 ·simp only[h0,aN,aB,Aa,bM]at fin⊢
  rw[Ay (l:=En.zero.cells) rfl];exact fin En.zero er h4 _ (fun _=>rfl) j V g En.Ie rfl
theorem A99:∀(w a:Nat),leV (Zz w a)=a%256^w
 | 0,a=>by simp[Zz,leV,Nat.mod_one]
 | w+1,a=>by
  rw[A4b,A8t,A99 w a,H6,Nat.mod_pow_succ]
theorem Ae6 {w:Nat}{b:Int}(h0:0<=v)(hb:v<=b)(hw:b<(256^w:Nat)):((leV (Zz w v.toNat):Nat):Int)=v:=by
 rw[A99,fU (by omega)];omega
theorem A9z {a b:List Nat}(h:a.length=n):(a++b).take n=a:=by subst h;simp
theorem Bf9 {a b:List Nat}(h:a.length=n):(a++b).drop n=b:=by subst h;simp
theorem Bhg(w:f.Wf):A4q (Vc f)=true:=by
 have d:=Atw w;have h2:=Aop w;unfold A4q;rw[d];apply aM;unfold Vc;rw[A9z h2,Bf9 h2]
theorem Bab(w:f.Wf)(d:frB f=true):Ae4 (A0j f)=f/\leV (((A0j f).drop 1).take 1)=1:=by
 simp only[frB,aR]at d;obtain⟨g,j,m,o,u⟩:=d;obtain⟨C,b1⟩:=Fl.1 g;obtain⟨y,b2⟩:=Fl.1 j;obtain⟨A,b3⟩:=Fl.1 m;obtain⟨a4,b4⟩:=Fl.1 o;obtain⟨a5,B⟩:=Fl.1 u;have D:=w.len;have t44:f.body.take 44=f.body:=bR (by omega);unfold Ae4 A0j;simp only[cW,A9z (H6 _ _),Bf9 (H6 _ _),t44];rw[Ae6 (w:=1) (by omega) b1 (by decide),Ae6 (w:=2) y b2 (by decide),Ae6 (w:=2) A b3 (by decide),Ae6 (w:=4) (by omega) b4 (by decide),Ae6 (w:=6) a5 B (by decide)];exact⟨rfl,by rw[A99]⟩
theorem Bl8(w:f.Wf)(d:frB f=true):Ab6 (Vc f)=(f,0):=by
 obtain⟨e1,e2⟩:=Bab w d;have h2:=Aop w;have g:(Vc f).take 60=A0j f:=by unfold Vc;exact A9z h2
 unfold Ab6;rw[aF (by rw[Bhg w];simp),g,e1,aG ⟨e2,d⟩]
theorem Bps(w:f.Wf)(d:frB f=true):atF (Vc f) f.Aj f.off=(f,0):=by
 unfold atF;rw[Bl8 w d];simp
theorem A61(w:e.Wf)(d:erB e=true):Ae3 e.kind (Ab2 e)=e:=by
 obtain⟨⟨g,b1⟩,⟨j,b2⟩,⟨m,b3⟩,⟨a4,b4⟩,⟨a5,o⟩,_⟩:=Bg7 d;have u:=w.len;have t32:e.bytes.take 32=e.bytes:=bR (by omega);unfold Ae3 Ab2;simp only[cW,A9z (H6 _ _),Bf9 (H6 _ _),t32];rw[Ae6 (w:=6) g b1 (by decide),Ae6 (w:=1) (by omega) b4 (by decide),Ae6 (w:=1) j b2 (by decide),Ae6 (w:=2) a5 o (by decide),Ae6 (w:=2) m b3 (by decide)]
theorem Bjz(w:e.Wf)(d:erB e=true):ofF e.kind (Ab2 e)=(e,0):=by
 unfold ofF;rw[A61 w d];unfold Ee;rw[aG d];simp
theorem Ayv(w:e.Wf){Aj off Ap seq:Int}(h:(E9 e Aj off Ap seq).2=0):
 (E9 e Aj off Ap seq).1=⟨e.kind,Aj,off,Ap,seq,Ab2 e⟩/\frB ⟨e.kind,Aj,off,Ap,seq,Ab2 e⟩=true/\erB e=true/\Aae ⟨e.kind,Aj,off,Ap,seq,Ab2 e⟩=(e,0):=by
 by_cases d:erB e=true/\frB ⟨e.kind,Aj,off,Ap,seq,(Ee e).1⟩=true/\e.first<=seq/\seq-e.count<e.first
 ·have hb:(Ee e).1=Ab2 e:=by unfold Ee;rw[aG d.1]
  have g:E9 e Aj off Ap seq=(⟨e.kind,Aj,off,Ap,seq,Ab2 e⟩,0):=by unfold E9;rw[aG d,hb]
  rw[hb]at d;refine⟨by rw[g],d.2.1,d.1,?_⟩;unfold Aae;simp only[Bjz w d.1,g];simp
 ·exfalso
  unfold E9 at h;rw[aF d]at h;exact absurd h (by decide)
end Go.Ev
