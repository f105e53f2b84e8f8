import Derived.Test.YtoihakbgidodkaaGreatXa
set_option linter.all false
namespace Go.Ev
noncomputable section
open Go.Proofs
set_option maxRecDepth 100000
variable {k:EV->R}{D K V b d i j m n t b3 b4 bl np ql off:Nat}{P:Int->Prop}{out:List Nat}{h h' h0:Ab}{v kind:Int}{op:Bool}{y:List EV}{kk:Ab->R}{Q:EV->Ab->Prop}{g:Gm}{F G H F':Nat->Prop}{ps:Nat->List Int}{Z:Zn}{ms:List (EV × EV)}{ev:List Le}{ih:EV->EV->EV->EV->EV->EV->EV->EV->Ab->R}{disp:Nat->Option FT}
abbrev Nk(k:IntKind)(a:Nat):EV:=.int k (Int.ofNat a)
theorem wrap_u8(a:Nat):Cs .u8 (Int.ofNat a)=Int.ofNat (a%256):=by
 rw[L7];rfl
theorem wrap_u32(a:Nat):Cs .u32 (Int.ofNat a)=Int.ofNat (a%4294967296):=by
 rw[L7];rfl
theorem vF {c:IntKind}{a:Nat}:Tg .u8 (.int c (Int.ofNat a)) k=k (Nk .u8 (a%256)):=by
 rw[HJ,wrap_u8]
theorem qy{a:Nat}:iA (bin TT .shr t) (.int .i64 (Int.ofNat a)) (.int .u64 8) k=k (Nk .i64 (a/256)):=by
 show k (.int .i64 (.ofNat (Nat.shiftRight a 8)))=_;have:Nat.shiftRight a 8=a/256:=fS a 8;rw[this]
theorem sM {s:Nat}(hs:s<=32){a:Nat}:iA (bin TT .shr t) (.int .u32 (Int.ofNat a)) (.int .u64 (Int.ofNat s)) k=k (Nk .u32 (a/2^s)):=by
 show k (.int .u32 (.ofNat (Nat.shiftRight a (Bb (Nat.ble s 32) s 32))))=_;rw[aM hs,Aj];have:Nat.shiftRight a s=a/2^s:=fS a s;rw[this]
theorem T'{a:Nat}(o:a<4294967296)(hb:b<4294967296):iA (bin TT .xor t) (.int .u32 (Int.ofNat a)) (.int .u32 (Int.ofNat b)) k=k (Nk .u32 (a ^^^ b)):=by
 show k (.int .u32 (Cs .u32 (.ofNat (Nat.xor a b))))=_;rw[wrap_u32];have:Nat.xor a b<2^32:=eH (n:=32) o hb;rw[fV (by exact this)];rfl
theorem T_{a:Nat}(o:a<256)(hb:b<256):iA (bin TT .xor t) (.int .u8 (Int.ofNat a)) (.int .u8 (Int.ofNat b)) k=k (Nk .u8 (a ^^^ b)):=by
 show k (.int .u8 (Cs .u8 (.ofNat (Nat.xor a b))))=_;rw[wrap_u8];have:Nat.xor a b<2^8:=eH (n:=8) o hb;rw[fV (by exact this)];rfl
def wd:Nat->Nat->Nat
 | 0,_=>1
 | f+1,a=>if a/256=0 then 1 else wd f (a/256)+1
theorem UA:∀(f a w:Nat),a<256^(f+1)->1<=w->(wd f a<=w↔a<256^w)
 | 0,a,w,h,hw=>by
  refine⟨fun _=>aL h (eZ c_ a_),fun _=>hw⟩
 | f+1,a,w,h,hw=>by
  unfold wd;by_cases h0:a/256=0
  ·rw[aN h0]
   refine⟨fun _=>?_,fun _=>hw⟩;have:a<256:=a_
   exact aL this (by have:=eZ (n:=256) c_ hw;simpa using this)
  ·rw[aK h0]
   have ih:=UA f (a/256) (w-1) (by rw[eU]at h;exact fR (by rw[fm];exact h));by_cases o:w=1
   ·subst o
    refine⟨fun y=>?_,fun y=>?_⟩
    ·have:1<=wd f (a/256):=by cases f<;>unfold wd<;>(try split)<;>omega
     omega
    ·exfalso;apply h0;simp at y;omega
   ·have ih:=ih a_
    obtain⟨v,rfl⟩:∃v,w=v+1:=⟨w-1,a_⟩;rw[gH]at ih;rw[eU];refine⟨fun y=>?_,fun y=>?_⟩
    ·have:=ih.1 a_
     have:=Nat.div_lt_iff_lt_mul (k:=256) (x:=a) (y:=256^v) c_;omega
    ·have:=ih.2 (fR (by rw[fm];exact y))
     omega
theorem Bcb:∀(f m a n:Nat) (h:Ab),f<m->a<256^(f+1)->n+f<=100->f<=10 ->
 Mr K m (Nk .i64 a) (Nk .i64 n) h=X0 K (Nk .i64 (a/256^(wd f a-1))) (Nk .i64 (n+wd f a-1)) h:=by
 intro f;induction f with
 | zero=>
  intro m a n h hm o B C;obtain⟨m,rfl⟩:=d_ m;have:a/256=0:=by simp at o;omega
  simp only[Mr,dr];rw[qy,this];simp only[Nk,Ac];rw[show decide ((0:Int)<Int.ofNat 0)=false from rfl];simp only[Aa,wd,fM,Nat.pow_zero,Nat.div_one,gH]
 | succ f ih=>
  intro m a n h hm o B C;obtain⟨m,rfl⟩:=d_ m;simp only[Mr,dr];rw[qy];simp only[Nk,Ac];unfold wd;by_cases h0:a/256=0
  ·rw[aN h0,h0]
   rw[show decide ((0:Int)<Int.ofNat 0)=false from rfl];simp only[Aa,fM,Nat.pow_zero,Nat.div_one,gH]
  ·rw[aK h0,show decide ((0:Int)<Int.ofNat (a/256))=true from aQ (by show(0:Int)<((a/256:Nat):Int);omega)]
   simp only[Aa,JJ];rw[qy];simp only[Nk,Ac];rw[show Cs .i64 (Int.ofNat n+1)=Int.ofNat (n+1)from Ci (by show _<=((n:Nat):Int)+1;omega) (by show((n:Nat):Int)+1<=_;omega)];have e:=ih m (a/256) (n+1) h a_ (fR (by rw[fm,<-eU];exact o)) a_ a_;rw[e];have hw:1<=wd f (a/256):=by cases f<;>unfold wd<;>(try split)<;>omega
   obtain⟨u,hu⟩:∃u,wd f (a/256)=u+1:=⟨wd f (a/256)-1,a_⟩;rw[hu,gH,show u+1+1-1=u+1 from rfl,Nat.pow_succ',fF,show n+1+(u+1)-1=n+(u+1+1)-1 from a_]
def ks(a:Nat):Nat:=if 7<wd 7 a then 8 else wd 7 a
theorem zV {a:Nat}(u:a<9223372036854775808)(hK:1000<K)(h:Ab):W9 K (.int .i64 (Int.ofNat a)) h=some (Nk .i64 (ks a),h):=by
 simp only[W9,dr];unfold ks;have e:=Bcb (K:=K) 7 K a 1 h a_ (Nat.lt_trans u c_) c_ c_;have:(EV.int .i64 1)=Nk .i64 1:=rfl;rw[this,e];have hw:1<=wd 7 a:=by unfold wd;split<;>omega
 simp only[X0,Nk,Ac];rw[show decide (Int.ofNat (a/256^(wd 7 a-1))<0)=false from aS (by show ¬(((a/256^(wd 7 a-1):Nat):Int)<0);exact Int.not_lt.2 (Int.natCast_nonneg _))];rw[show 1+wd 7 a-1=wd 7 a from a_];by_cases o:7<wd 7 a
 ·rw[show decide ((7:Int)<Int.ofNat (wd 7 a))=true from aQ (by show(7:Int)<((wd 7 a:Nat):Int);omega),aN o]
  simp only[Aa,Za];rfl
 ·rw[show decide ((7:Int)<Int.ofNat (wd 7 a))=false from aS (by show ¬((7:Int)<((wd 7 a:Nat):Int));omega),aK o]
  simp only[Aa,Za,JI]
theorem Bgg {a:Nat}(hK:1000<K)(h:Ab):W9 K (.int .i64 (Int.negSucc a)) h=some (I 8,h):=by
 obtain⟨m,rfl⟩:=d_ K;simp only[W9,Mr,dr];have e:∀k:EV->R,iA (bin TT .shr 3) (.int .i64 (Int.negSucc a)) (.int .u64 8) k=k (.int .i64 ((Int.negSucc a).fdiv 256)):=fun k=>rfl
 have o:(Int.negSucc a).fdiv 256<0:=by
  rw[fQ _ c_];have:Int.negSucc a<0:=Int.negSucc_lt_zero a;omega
 rw[e];simp only[Ac];rw[show decide ((0:Int)<(Int.negSucc a).fdiv 256)=false from aS a_];simp only[Aa,X0,Ac];rw[show decide (Int.negSucc a<0)=true from aQ (Int.negSucc_lt_zero a)];simp only[Aa,Za,I]
theorem zU {a w:Nat}(o:a<9223372036854775808)(u:1<=w)(B:w<=7):ks a<=w↔a<256^w:=by
 have:=UA 7 a w (Nat.lt_trans o c_) u;rw[<-this];unfold ks;split<;>omega
def N1(w a:Nat):List Nat:=(List.range w).map fun i=>a/256^i%256
theorem vX(w a:Nat):N1 (w+1) a=N1 w a++[a/256^w%256]:=by unfold N1;rw[cu,bZ];rfl
theorem C9(w a:Nat):(N1 w a).length=w:=by simp[N1]
theorem qz(a b:List Nat):Bh (a++b)=Bh a++Bh b:=bZ
theorem Bf(a:List Nat):(Bh a).length=a.length:=bT _
structure lJ(h:Ab)(P t:Nat)(out:List Nat)(bad:Bool):Prop where
 Ly:∃s q,h.get P=some (.cells [s,.bool bad] t)/\Bu h s q 5 1 out.length (Bh out)/\(0<out.length->P<q)
theorem vZ(n:Int)(h:Ab):Xm K (I n) h=some (.bool (decide (1<=n/\n<=7)),h):=by
 simp only[Xm,I,Ac,Aa];by_cases o:1<=n
 ·simp only[o,aB,Aa,Ac,xk,gQ]
 ·simp only[o,aA,Aa,xk,gP]
theorem Bkv {P w:Nat}{bad:Bool}{a:Nat}(J:a<9223372036854775808)(hw:w<=7)(L:out.length<=60000)(h0:Ab)(O:P<h0.next):∀(m i:Nat) (h:Ab),w-i<m->i<=w->HB h->Aw (fun i=>P<=i) h0 h->lJ h P t (out++N1 i a) bad ->
 Ok (Jw K m (.ptr P 0) (Nk .i64 (a/256^i)) (I w) (I i) h) fun _ h'=>lJ h' P t (out++N1 w a) bad/\Aw (fun i=>P<=i) h0 h'/\HB h':=by
 intro m;induction m with
 | zero=>intro i h hm;omega
 | succ m ih=>
  intro i h hm T hb c p;obtain⟨s,q,g,r,l⟩:=p.Ly;simp only[Jw,I,Ac,Aa];by_cases o:(i:Int)<w
  ·simp only[o,aB,Aa,vV,Cy g rfl]
   rw[wrap_u8];have hlen:(out++N1 i a).length=out.length+i:=by rw[aE,C9]
   refine Kv (z:=[.int .u8 0]) r hb rfl rfl rfl a_ a_ ?_;intro h2 C U c2;have E:¬(0<(out++N1 i a).length/\P=q):=fun y=>by have:=l y.1;omega
   have u:=c2.at hb g E;have B:=(c2.hb hb) _ _ u;refine Ok.Z7 u rfl rfl (by show 0<2;decide) ?_;rw[qy];simp only[vW,I,Ac];rw[Ci,fF,<-eU];have c3:Aw (fun i=>P<=i) h (h2.put P (.cells ([s,EV.bool bad].set 0 (.slice (h.next+1) 0 ((out++N1 i a).length+1) ((out++N1 i a).length+1) true)) t)):=(c2.mono fun j hj=>by have:=l hj.1;show P<=j;omega).Ao (.inl (aD _)) B _;refine ih (i+1) _ a_ a_ ((c2.hb hb).put B _) (c.trans c3) ?_;rw[vX,<-bQ];refine⟨_,h.next+1,Af _ _ _,?_,fun _=>by have:=c.next;omega⟩;have e1:((out++N1 i a)++[a/256^i%256]).length=(out++N1 i a).length+1:=by rw[aE];rfl
   have e2:Bh ((out++N1 i a)++[a/256^i%256])=Bh (out++N1 i a)++EV.cells (Nk .u8 (a/256^i%256)):=by rw[qz];rfl
   rw[e1,e2];refine C.frame fun _=>Ae _ ?_
   have:=hb _ _ g;omega
  ·have:i=w:=a_
   subst this;simp only[o,aA,Aa];exact .ret ⟨p,c,hb⟩
def fits(w:Nat)(v:Int):Bool:=decide (0<=v/\v<(256^w:Nat))
theorem Ml {P w:Nat}{bad:Bool}(hK:1000<K)(p:lJ h P t out bad)(hb:HB h)(J:out.length<=60000)(L:1<=w)(E:w<=7)(O : -9223372036854775808<=v/\v<=9223372036854775807:=by omega):
 Ok (Eh K (.ptr P 0) (I w) (I v) h) fun _ h'=>lJ h' P t (if fits w v=true then out++N1 w v.toNat else out) (bad||!fits w v)/\Aw (fun i=>P<=i) h h'/\HB h':=by
 obtain⟨s,q,g,r,l⟩:=p.Ly;have u:=hb _ _ g;simp only[Eh,dr];rw[vZ,aQ ⟨a_,a_⟩];simp only[Aa,Ac];have no:fits w v=false->Ok (Vz 1 (.ptr P 1) (.bool true) h fun h=>some (.tuple [],h)) fun _ h'=>lJ h' P t (if fits w v=true then out++N1 w v.toNat else out) (bad||!fits w v)/\Aw (fun i=>P<=i) h h'/\HB h':=by
  intro B;refine Ok.Z7 g rfl rfl (by show 1<2;decide) ?_;refine .ret ⟨?_,(Aw.refl (S:=fun i=>P<=i) h).Ao (.inl (aD _)) u _,hb.put u _⟩;rw[B,aK (by simp),dL,Bool.or_true];exact⟨s,q,Af _ _ _,r.frame fun y=>Ae _ (by have:=l y;omega),l⟩
 cases v with
 | negSucc a=>
  unfold I;rw[Bgg hK,Aq];simp only[I,Ac];rw[show decide ((w:Int)<8)=true from aQ a_];simp only[Aa,Pp];exact no (aS fun y=>absurd y.1 (by have:=Int.negSucc_lt_zero a;omega))
 | ofNat a=>
  have C:a<9223372036854775808:=by have:((a:Nat):Int)<=9223372036854775807:=O.2;omega
  unfold I;rw[zV C hK,Aq];have o:=zU C L E;simp only[Nk,Ac];by_cases hw:ks a<=w
  ·have B:fits w (Int.ofNat a)=true:=aQ ⟨Int.natCast_nonneg a,by have:=o.1 hw;exact Int.ofNat_lt.2 this⟩
   rw[show decide ((w:Int)<Int.ofNat (ks a))=false from aS (by show ¬(w:Int)<((ks a:Nat):Int);omega)];simp only[Aa,Pp,v8];have:=Bkv (K:=K) (P:=P) (t:=t) (w:=w) (bad:=bad) C E J h u K 0 h a_ (cO _) hb (Aw.refl _) (by simpa [N1]using p);rw[Nat.pow_zero,Nat.div_one]at this;rw[B,aN rfl,fB,Bool.or_false];exact this
  ·rw[show decide ((w:Int)<Int.ofNat (ks a))=true from aQ (by show(w:Int)<((ks a:Nat):Int);omega)]
   simp only[Aa,Pp];exact no (aS fun y=>hw (o.2 (Int.ofNat_lt.1 y.2)))
theorem UB {P:Nat}{bad:Bool}{new:List Nat}(p:lJ h P t out bad)(hb:HB h)(O:out.length<=60000){x:EV}(C:lenOf x=some n)(h0:0<n)(T:n<=5000)(E:Pw h 1 n x=some (Bh new))(u:new.length=n):
 Ok (Q2 K (.ptr P 0) x h) fun _ h'=>lJ h' P t (out++new) bad/\Aw (fun i=>P<=i) h h'/\HB h':=by
 obtain⟨s,q,g,r,l⟩:=p.Ly;have U:=hb _ _ g;simp only[Q2,Aa,Cy g rfl];obtain⟨h2,e,J,W,c2⟩:=pD r C h0 a_ a_ E (by rw[Bf,u,cD]);rw[e,Aq];have L:¬(0<out.length/\P=q):=fun y=>by have:=l y.1;omega
 have B:=c2.at hb g L;have o:=(c2.hb hb) _ _ B
 try simp only[Aa]
 refine Ok.Z7 B rfl rfl (by show 0<2;decide) ?_;refine .ret ⟨⟨_,h.next,Af _ _ _,?_,fun _=>a_⟩,(c2.mono fun j hj=>by have:=l hj.1;show P<=j;omega).Ao (.inl (aD _)) o _,(c2.hb hb).put o _⟩;rw[aE,u,qz];exact J.frame fun _=>Ae _
structure Bs(h:Ab)(x:EV)(b off:Nat)(l:List Nat):Prop where
 Ly:∃r op o row,x=.slice b off l.length r op/\l.length<=r/\h.get b=some o/\rowOf o=some row/\off+l.length<=row.length/\(row.drop off).take l.length=Bh l
theorem Bs.frame{x:EV}{l:List Nat}(s:Bs h x b off l)(e:h'.get b=h.get b):Bs h' x b off l:=by
 obtain⟨r,op,o,row,e1,e0,e2,e3,e4,e5⟩:=s.Ly;exact⟨r,op,o,row,e1,e0,by rw[e];exact e2,e3,e4,e5⟩
theorem Bs.lt{x:EV}{l:List Nat}(s:Bs h x b off l)(hb:HB h):b<h.next:=by
 obtain⟨r,op,o,row,e1,e0,e2,e3,e4,e5⟩:=s.Ly;exact hb _ _ e2
theorem Bs.ext{x:EV}{l:List Nat}(s:Bs h x b off l)(hb:HB h)(c:Ext h h'):Bs h' x b off l:=s.frame (c.get _ (s.lt hb) id)
theorem Bs.lift{x:EV}{l:List Nat}(s:Bs h x b off l):Bs h.lift x b off l:=s.frame (Bv _ _)
theorem Bs.len{x:EV}{l:List Nat}(s:Bs h x b off l):lenOf x=some l.length:=by
 obtain⟨r,op,o,row,rfl,_⟩:=s.Ly;rfl
theorem Bs.Fz{x:EV}{l:List Nat}(s:Bs h x b off l)(k:EV->R):Ev.Fz x k=k (I l.length):=by
 obtain⟨r,op,o,row,rfl,_⟩:=s.Ly;rfl
theorem Bs.cells{x:EV}{l:List Nat}(s:Bs h x b off l):Pw h 1 l.length x=some (Bh l):=by
 obtain⟨r,op,o,row,rfl,e0,e2,e3,e4,e5⟩:=s.Ly;show Bb (Nat.beq l.length 0) (some []) (Xk h b off (Nat.mul l.length 1))=_;rw[show Nat.mul l.length 1=l.length from cD _];have u:Ke row off l.length=some (Bh l):=by rw[E4 e4,e5]
 cases B:l with
 | nil=>rfl
 | cons a r=>
  rw[show Nat.beq (a::r).length 0=false from rfl,Bk];unfold Xk;rw[e2,<-B];cases o<;>first|(cases e3;done)|(cases e3;exact u)
theorem Bs.ix{x:EV}{l:List Nat}(s:Bs h x b off l)(u:i<l.length):(∀k:EV->R,Ve 1 x (.int .i64 (i:Int)) k=k (.ptr b (off+i)))/\(∀k:EV->R,Et (.ptr b (off+i)) h k=k (Nk .u8 l[i])):=by
 obtain⟨r,op,o,row,rfl,e0,e2,e3,e4,e5⟩:=s.Ly;refine⟨fun k=>by rw[Md u,cD],fun k=>?_⟩;rw[Cy e2 e3];have:row[off+i]? = some (Nk .u8 l[i]):=by
  have e5:=congrArg (fun z=>z[i]?) e5;simp only[eD,u,bM,cq]at e5;rw[e5];unfold Bh;rw[aY,aF u];rfl
 rw[this];rfl
theorem Bs.take{x:EV}{l:List Nat}(s:Bs h x b off l)(C:n<=l.length):∃y,(∀k:EV->R,il 1 x none (some (.int .i64 (n:Int))) none k=k y)/\Bs h y b off (l.take n):=by
 obtain⟨r,op,o,row,rfl,e0,e2,e3,e4,e5⟩:=s.Ly;have u:(l.take n).length=n:=by rw[bH,eB C]
 refine⟨EV.slice b off n r op,fun k=>?_,⟨r,op,o,row,by rw[u],by rw[u];omega,e2,e3,by rw[u];omega,?_⟩⟩
 ·have:iJ (EV.slice b off l.length r op) 1 none (some (.int .i64 (n:Int))) none=some (EV.slice b off n r op):=by
   have B:bound (some (.int .i64 (n:Int))) r l.length=some n:=by
    show Bb (Nat.ble n r) (some n) none=_;rw[aM a_,Aj]
   unfold iJ;simp only[B];cases op with
   | true=>rfl
   | false=>
    show Bb (Nat.ble 0 r) (some (EV.slice b (Bb (Nat.beq r 0) off (Nat.add off (Nat.mul 0 1))) n r false)) none=_;rw[aM (cO _),Aj];have:Bb (Nat.beq r 0) off (Nat.add off (Nat.mul 0 1))=off:=by
     rw[show Nat.add off (Nat.mul 0 1)=off from rfl];cases Nat.beq r 0<;>rfl
    rw[this]
  unfold il;rw[this];rfl
 ·rw[u]
  have:=congrArg (fun z=>z.take n) e5;simp only[List.take_take,eB C]at this;rw[this];unfold Bh;rw[List.map_take]
theorem Bs.drop{l:List Nat}{r:Nat}(s:Bs h (.slice b off l.length r op) b off l)(T:n<l.length):(∀k:EV->R,il 1 (.slice b off l.length r op) (some (.int .i64 (n:Int))) none none k=k (.slice b (off+n) (l.length-n) (r-n) op))/\Bs h (.slice b (off+n) (l.length-n) (r-n) op) b (off+n) (l.drop n):=by
 obtain⟨U,E,o,row,e1,e0,e2,e3,e4,e5⟩:=s.Ly;injection e1 with _ _ _ J L;subst J L;have u:(l.drop n).length=l.length-n:=by rw[aU]
 refine⟨fun k=>?_,⟨r-n,op,o,row,by rw[u],by rw[u];omega,e2,e3,by rw[u];omega,?_⟩⟩
 ·have:iJ (.slice b off l.length r op) 1 (some (.int .i64 (n:Int))) none none=some (.slice b (off+n) (l.length-n) (r-n) op):=by
   have B:bound (some (.int .i64 (n:Int))) l.length 0=some n:=by
    show Bb (Nat.ble n l.length) (some n) none=_;rw[aM a_,Aj]
   have C:bound none r l.length=some l.length:=rfl;unfold iJ;simp only[B,C];cases op with
   | true=>
    rw[Aj];cases n with
    | zero=>rfl
    | succ n=>
     rw[show Nat.beq (n+1) 0=false from rfl,Bk,aM (by show n+1+1<=r;omega),Aj,show Nat.mul (n+1) 1=n+1 from cD _];rfl
   | false=>
    rw[Bk,aM (by show n<=r;omega),Aj,show Nat.mul n 1=n from cD _];have:Nat.beq r n=false:=by
     cases O:Nat.beq r n with
     | false=>rfl
     | true=>have:=aJ O;omega
    rw[this,Bk];rfl
  unfold il;rw[this];rfl
 ·have:=congrArg (fun z=>z.drop n) e5
  rw[u];simp only[List.drop_take,cK]at this;rw[this];unfold Bh;rw[List.map_drop]
theorem Bu.bs{s:EV}{q:Nat}{l:List Nat}(r:Bu h s q 5 1 l.length (Bh l))(o:0<l.length):Bs h s q 0 l:=by
 refine⟨l.length,true,_,Bh l,r.slice o,aD _,r.block o,rfl,by rw[Bf,bI];exact aD _,?_⟩;rw[dK,<-Bf,cF]
def Bs3:EV->Nat
 | .int _ x=>x.toNat
 | _=>0
def o6:List Nat:=Bc.map Bs3
theorem Bgr:Bc=o6.map (Nk .u32):=by kernel_rfl
theorem Bra:o6.all (fun n=>Nat.blt n 4294967296)=true:=by kernel_rfl
theorem Bpt:o6.length=256:=by kernel_rfl
def qn(r c:Nat):Nat:=(r/256) ^^^ (o6[(r%256) ^^^ c]?).getD 0
theorem zi(u:i<256):Bc[i]? = some (Nk .u32 ((o6[i]?).getD 0))/\(o6[i]?).getD 0<4294967296:=by
 have o:i<o6.length:=by rw[Bpt];exact u
 rw[Bgr,aY,aF o];refine⟨rfl,?_⟩;have:=dS.1 Bra _ (aZ o);exact bG this
theorem Bnv {r c:Nat}(B:r<4294967296)(o:c<256):qn r c<4294967296:=by
 unfold qn;have u:(r%256) ^^^ c<2^8:=eH (n:=8) (Nat.mod_lt _ c_) o;exact eH (n:=32) (by show r/256<4294967296;omega) (zi u).2
theorem Bpf{r c:Nat}(J:r<4294967296)(u:c<256):Ok (Yt K U1 (Nk .u32 r) (Nk .u8 c) h) fun v h'=>v=Nk .u32 (qn r c)/\Ext h h':=by
 unfold U1;simp only[Yt,Aa];obtain⟨L,B,C,E,_⟩:=nW h (.cells Bc 73);rw[B];rw[show ∀k:EV->R,iA (bin TT .shr 71) (Nk .u32 r) (.int .u64 8) k=k (Nk .u32 (r/256))from fun k=>sM (s:=8) c_];have o:(r%256) ^^^ c<256:=eH (n:=8) (Nat.mod_lt _ c_) u;rw[wrap_u8,T_ (Nat.mod_lt _ c_) u,show ∀k:EV->R,jR 256 1 (.ptr h.next 0) (Nk .u8 ((r%256) ^^^ c)) k=k (.ptr h.next (0+((r%256) ^^^ c)*1))from fun k=>Vo o];rw[Cy E rfl,bI,cD,(zi o).1];simp only[G6];rw[T' a_ (zi o).2];exact .ret ⟨rfl,C⟩
def nL(r:Nat)(l:List Nat):Nat:=l.foldl qn r
theorem vG:∀(l:List Nat) (r:Nat),r<4294967296->(∀b∈l,b<256)->nL r l<4294967296
 | [],r,o,_=>o
 | c::l,r,o,u=>vG l (qn r c) (Bnv o (u c (aW ..))) fun b hb=>u b (aV _ hb)
theorem Bi4 {T:Nat}{x:EV}{l:List Nat}(E:∀b∈l,b<256)(U:l.length<=5000){r0:Nat}(h0:r0<4294967296):∀(m i:Nat) (h:Ab),l.length-i<m->i<=l.length->HB h->h.get T=some (.cells Bc 73)->Bs h x b off l ->
 Ok (Og K m (.ptr T 0) (Nk .u32 (nL r0 (l.take i))) x (I l.length) (I i) h) fun v h'=>v=Nk .u32 (nL r0 l)/\Ext h h':=by
 intro m;induction m with
 | zero=>intro i h hm;omega
 | succ m ih=>
  intro i h hm W hb J s;simp only[Og,I,Ac,Aa];by_cases u:(i:Int)<l.length
  ·have o:i<l.length:=a_
   obtain⟨e1,e2⟩:=s.ix o;simp only[u,aB,Aa,KP,e1,e2,Cv J rfl];rw[Ai Qo];simp only[G6];have C:∀b∈l.take i,b<256:=fun b hb=>E b (bS hb)
   refine(Bpf (K:=K) (vG _ _ h0 C) (E _ (aZ o))).Al ?_;rintro _ L ⟨rfl,B⟩;simp only[KO,I,Ac];rw[Ci];have e:qn (nL r0 (l.take i)) l[i]=nL r0 (l.take (i+1)):=by
    unfold nL;rw[List.take_add_one,List.foldl_append,aF o];rfl
   rw[e];refine(ih (i+1) L a_ a_ (B.hb hb) (B.at hb J) (s.ext hb B)).mono ?_;rintro v h' ⟨e,O⟩;exact⟨e,B.trans O⟩
  ·have:i=l.length:=a_
   subst this;simp only[u,aA,Aa,KN,cF];exact .ret ⟨rfl,Aw.refl _⟩
def Gh(l:List Nat):Nat:=nL 4294967295 l ^^^ 4294967295
theorem zj {l:List Nat}(o:∀b∈l,b<256):Gh l<4294967296:=eH (n:=32) (vG l _ c_ o) c_
theorem vH{x:EV}{l:List Nat}(hK:10000<K)(s:Bs h x b off l)(hb:HB h)(u:∀b∈l,b<256)(B:l.length<=5000):Ok (Ow K U1 x h) fun v h'=>v=Nk .u32 (Gh l)/\Ext h h':=by
 unfold U1;simp only[Ow,Aa];obtain⟨C,E,o,J,_⟩:=nW h (.cells Bc 73);rw[E];have s1:=s.ext hb o;simp only[xp,s1.Fz,dr];refine(Bi4 (K:=K) u B (r0:=4294967295) c_ K 0 C a_ (cO _) (o.hb hb) J s1).Al ?_;rintro _ h2 ⟨rfl,L⟩;rw[show ∀k:EV->R,iA (bin TT .xor 71) (Nk .u32 (nL 4294967295 l)) (.int .u32 4294967295) k=k (Nk .u32 (Gh l))from fun k=>T' (b:=4294967295) (vG l _ c_ u) c_];exact .ret ⟨rfl,o.trans L⟩
theorem Bu.cells{s:EV}{q:Nat}{l:List Nat}(r:Bu h s q 5 1 l.length (Bh l)):Pw h 1 l.length s=some (Bh l):=by
 rcases eC l.length with h0|o
 ·have:l = []:=bh.1 h0
  subst this;rcases r with⟨_,_,rfl|⟨b,rfl⟩⟩|⟨y,_⟩
  ·rfl
  ·rfl
  ·exact absurd y (bU _)
 ·exact(r.bs o).cells
theorem zY{P q:Nat}{s:EV}(g:h.get P=some (.cells [s,.bool false] t))(r:Bu h s q 5 1 out.length (Bh out))(hb:HB h)(L:out.length<=60000):
 Ok (O1 K (.ptr P 0) h) fun v h'=>∃y q',v=.tuple [y,I 0]/\Bu h' y q' 5 1 out.length (Bh out)/\Ext h h'/\HB h'/\(0<out.length->h.next<=q'):=by
 simp only[O1,Aa,Cy g rfl,JK];rw[show By [(.int .u8 0)] 5 1 0 [] h=some (.slice h.next 0 0 0 false,h.new (.cells [] 5))from rfl,Aq];have o:Ext h (h.new (.cells [] 5)):=Aw.new _ _;have B:=o.at hb g;have u:Bu (h.new (.cells [] 5)) s q 5 1 out.length (Bh out):=r.frame fun y=>o.get _ (hb _ _ (r.block y)) id
 generalize h.new (.cells [] 5)=O at o B u⊢;simp only[Aa,Cy B rfl];refine(X5 (b:=h.next) (e:=5) u.len a_ u.cells (by rw[Bf,cD]) 0).Al ?_;rintro v h2 ⟨q',E,C,J⟩;refine .ret ⟨v,q',rfl,E,o.trans C,(o.trans C).hb hb,fun y=>?_⟩;have:=J y;have:=o.next
 omega
theorem UC{P:Nat}(p:lJ h P t out false)(hb:HB h)(o:out.length<=60000):
 Ok (O1 K (.ptr P 0) h) fun v h'=>∃y q',v=.tuple [y,I 0]/\Bu h' y q' 5 1 out.length (Bh out)/\Ext h h'/\HB h'/\(0<out.length->h.next<=q'):=by
 obtain⟨s,q,g,r,_⟩:=p.Ly;exact zY g r hb o
theorem Btl(s:Nat):N1 4 s = [s%256,s/256%256,s/65536%256,s/16777216%256]:=by
 simp[N1,cu]
theorem Br0(a b c d:Int)(h:Ab):By [(.int .u8 0)] 5 1 4 [(0,.int .u8 a),(1,.int .u8 b),(2,.int .u8 c),(3,.int .u8 d)] h=some (.slice h.next 0 4 4 false,h.new (.cells [.int .u8 a,.int .u8 b,.int .u8 c,.int .u8 d] 5)):=rfl
theorem Bp3{x:EV}{l:List Nat}(hK:10000<K)(s:Bs h x b off l)(hb:HB h)(hl:∀b∈l,b<256)(h0:0<l.length)(hn:l.length<=5000):
 Ok (Ye K U1 x h) fun v h'=>∃q',Bu h' v q' 5 1 (l++N1 4 (Gh l)).length (Bh (l++N1 4 (Gh l)))/\Ext h h'/\HB h'/\h.next<=q':=by
 unfold U1;simp only[Ye,Aa];obtain⟨h1,e_,u,g3,_⟩:=nW h (.cells Bc 73);rw[e_];have o:=u.hb hb;rw[Cv g3 rfl,Ai Qo];simp only[G6];refine(vH (K:=K) hK (s.ext hb u) o hl hn).Al ?_;rintro _ h2 ⟨rfl,B⟩;have C:=B.hb o;have s2:=(s.ext hb u).ext o B;rw[show By [(.int .u8 0)] 5 1 0 [] h2=some (.slice h2.next 0 0 0 false,h2.new (.cells [] 5))from rfl,Aq];have J:Ext h2 (h2.new (.cells [] 5)):=Aw.new _ _;have O:=s2.ext C J;have n3:(h2.new (.cells [] 5)).next=h2.next+1:=rfl
 generalize h2.new (.cells [] 5)=h3 at J O n3⊢;have T:=J.hb C;refine(X5 (b:=h2.next) (e:=5) O.len a_ O.cells (by rw[Bf,cD]) 0).Al ?_;rintro v h4 ⟨q',r4,U,l4⟩;have W:=U.hb T;rw[show ∀k:EV->R,Tg .u8 (Nk .u32 (Gh l)) k=k (Nk .u8 (Gh l%256))from fun k=>vF];rw[show ∀k:EV->R,iA (bin TT .shr 71) (Nk .u32 (Gh l)) (.int .u64 8) k=k (Nk .u32 (Gh l/256))from fun k=>sM (s:=8) c_];rw[show ∀k:EV->R,Tg .u8 (Nk .u32 (Gh l/256)) k=k (Nk .u8 (Gh l/256%256))from fun k=>vF];rw[show ∀k:EV->R,iA (bin TT .shr 71) (Nk .u32 (Gh l)) (.int .u64 16) k=k (Nk .u32 (Gh l/65536))from fun k=>sM (s:=16) c_];rw[show ∀k:EV->R,Tg .u8 (Nk .u32 (Gh l/65536)) k=k (Nk .u8 (Gh l/65536%256))from fun k=>vF];rw[show ∀k:EV->R,iA (bin TT .shr 71) (Nk .u32 (Gh l)) (.int .u64 24) k=k (Nk .u32 (Gh l/16777216))from fun k=>sM (s:=24) c_];rw[show ∀k:EV->R,Tg .u8 (Nk .u32 (Gh l/16777216)) k=k (Nk .u8 (Gh l/16777216%256))from fun k=>vF];rw[Br0,Aq];have L:Ext h4 (h4.new (.cells (Bh (N1 4 (Gh l))) 5)):=Aw.new _ _;have e5:Bh (N1 4 (Gh l)) = [Nk .u8 (Gh l%256),Nk .u8 (Gh l/256%256),Nk .u8 (Gh l/65536%256),Nk .u8 (Gh l/16777216%256)]:=by rw[Btl];rfl
 rw[e5]at L;have r5:Bu (h4.new (.cells [Nk .u8 (Gh l%256),Nk .u8 (Gh l/256%256),Nk .u8 (Gh l/65536%256),Nk .u8 (Gh l/16777216%256)] 5)) v q' 5 1 l.length (Bh l):=r4.frame fun y=>L.get _ (W _ _ (r4.block y)) id
 have g5:(h4.new (.cells [Nk .u8 (Gh l%256),Nk .u8 (Gh l/256%256),Nk .u8 (Gh l/65536%256),Nk .u8 (Gh l/16777216%256)] 5)).get h4.next=some (.cells [Nk .u8 (Gh l%256),Nk .u8 (Gh l/256%256),Nk .u8 (Gh l/65536%256),Nk .u8 (Gh l/16777216%256)] 5):=Ad _ _
 have n5:(h4.new (.cells [Nk .u8 (Gh l%256),Nk .u8 (Gh l/256%256),Nk .u8 (Gh l/65536%256),Nk .u8 (Gh l/16777216%256)] 5)).next=h4.next+1:=rfl
 generalize h4.new (.cells [Nk .u8 (Gh l%256),Nk .u8 (Gh l/256%256),Nk .u8 (Gh l/65536%256),Nk .u8 (Gh l/16777216%256)] 5)=X at L r5 g5 n5⊢;have Y:Pw X 1 4 (.slice h4.next 0 4 4 false)=some (Bh (N1 4 (Gh l))):=by
  show Xk X h4.next 0 4=_
  unfold Xk mi;rw[g5,e5];rfl
 obtain⟨h6,e6,r6,n6,c6⟩:=pD r5 rfl c_ c_ a_ Y (by rw[Bf,C9]);rw[e6,Aq];have hq:=l4 h0;have E:Ext h h6:=by
  refine((u.trans B).trans ((J.trans U).trans L)).then c6 fun j hj au=>?_
  have:=u.next;have:=B.next;have:=hj.2;omega
 refine .ret ⟨X.next,?_,E,E.hb hb,?_⟩
 ·rw[qz,aE,C9];exact r6
 ·have:=u.next;have:=B.next;have:=U.next;omega
theorem Brk {a:Nat}(k:EV->R):Jk iF (bin TT .neq t) (Nk .u8 a) (Nk .u8 b) k=k (.bool (decide (¬a=b))):=by
 show k (iF .u8 (Int.ofNat a) (Int.ofNat b))=_;rw[HQ,tp,tF];exact congrArg (fun b=>k (.bool b)) (fT.2 (not_congr ⟨Int.ofNat.inj,congrArg _⟩))
def o7(l:List Nat):Bool:=decide (N1 4 (Gh (l.take (l.length-4)))=l.drop (l.length-4))
def UD(h:Ab)(l:List Nat)(v:EV)(h':Ab):Prop:=Ext h h'/\HB h'/\((o7 l=false/\v=.tuple [.An,I 11])\/(o7 l=true/\∃y q',v=.tuple [y,I 0]/\Bu h' y q' 5 1 (l.take (l.length-4)).length (Bh (l.take (l.length-4)))/\h.next<=q'))
theorem Bft {x y:EV}{u:Nat}{l:List Nat}(h4:4<l.length)(hn:l.length<=5000)(Y:∀b∈l,b<256)(h0:Ab):∀(m i:Nat) (h:Ab),4-i<m->i<=4->HB h->Ext h0 h->Bs h x b off l->Bs h y b u (l.drop (l.length-4))->(∀j (hj:j<i),(l.drop (l.length-4))[j]? = some (Gh (l.take (l.length-4))/256^j%256)) ->
 Ok (N0 K m x (I ((l.length-4:Nat):Int)) (Nk .u32 (Gh (l.take (l.length-4))/256^i)) y (I 4) (I i) h) (UD h0 l):=by
 intro m;have hd:(l.drop (l.length-4)).length=4:=by rw[aU];omega
 have hs:=zj (l:=l.take (l.length-4)) fun b hb=>Y b (bS hb)
 induction m with
 | zero=>intro i h hm;omega
 | succ m ih=>
  intro i h hm hi hb x0 sx T hj;simp only[N0,I,Ac,Aa];by_cases B:(i:Int)<4
  ·have o:i<(l.drop (l.length-4)).length:=a_
   obtain⟨e1,e2⟩:=T.ix o;simp only[B,aB,Aa,LS,e1,e2];rw[wrap_u8];rw[Brk];by_cases E:(l.drop (l.length-4))[i]=Gh (l.take (l.length-4))/256^i%256
   ·simp only[E,aC,aA,Aa,LR]
    rw[show ∀k:EV->R,iA (bin TT .shr 71) (Nk .u32 (Gh (l.take (l.length-4))/256^i)) (.int .u64 8) k=k (Nk .u32 (Gh (l.take (l.length-4))/256^i/256))from fun k=>sM (s:=8) c_];simp only[LQ,I,Ac];rw[Ci,fF,<-eU];refine ih (i+1) h a_ a_ hb x0 sx T fun j aa=>?_
    by_cases L:j=i
    ·subst L;rw[aF o,E]
    ·exact hj j a_
   ·simp only[E,aH,aB,Aa]
    refine .ret ⟨x0,hb,.inl ⟨aS fun y=>E ?_,rfl⟩⟩;have:=congrArg (fun z=>z[i]?) y;simp only[N1]at this;rw[aF o,aY,cL a_]at this;exact(ek this).symm
  ·have:i=4:=a_
   subst this;simp only[B,aA,Aa,LP];have ho:o7 l=true:=aQ (by
    apply eR;intro j;by_cases C:j<4
    ·rw[hj j C];unfold N1;rw[aY,cL C];rfl
    ·rw[cN (by rw[C9];omega),cN a_])
   rw[show By [(.int .u8 0)] 5 1 0 [] h=some (.slice h.next 0 0 0 false,h.new (.cells [] 5))from rfl,Aq];have J:Ext h (h.new (.cells [] 5)):=Aw.new _ _;have U:=sx.ext hb J;have n3:(h.new (.cells [] 5)).next=h.next+1:=rfl
   generalize h.new (.cells [] 5)=h3 at J U n3⊢;have O:=J.hb hb;obtain⟨w,e3,W⟩:=U.take (n:=l.length-4) a_;rw[e3];refine(X5 (b:=h.next) (e:=5) W.len (by rw[bH];omega) W.cells (by rw[Bf,cD]) 0).Al ?_;rintro v ad ⟨q',r4,X,l4⟩;refine .ret ⟨x0.trans (J.trans X),X.hb O,.inr ⟨ho,v,q',rfl,r4,?_⟩⟩;have:=l4 (by rw[bH];omega);have:=x0.next
   omega
theorem Box{r:Nat}{l:List Nat}(hK:10000<K)(s:Bs h (.slice b off l.length r op) b off l)(hb:HB h)(E:∀b∈l,b<256)(h4:4<l.length)(L:l.length<=5000):
 Ok (Zc K U1 (.slice b off l.length r op) h) (UD h l):=by
 unfold U1;simp only[Zc,Aa];obtain⟨Y,O,B,J,_⟩:=nW h (.cells Bc 73);rw[O];have o:=B.hb hb;have s1:=s.ext hb B;have T:=o _ _ J;simp only[Ac];rw[Ci,show(l.length:Int)-4=((l.length-4:Nat):Int) from a_,show decide (((l.length-4:Nat):Int)<0)=false from aS a_];simp only[Aa,LU,Cj T,Ar,Cv J rfl,Ai Qo];obtain⟨w,e3,U⟩:=s1.take (n:=l.length-4) a_;rw[e3];refine Ok.bE (vH (K:=K) hK U.lift (Cz o) (fun b hb=>E b (bS hb)) (by rw[bH];omega)) (fun _ _ p=>p.2) ?_;rintro _ h2 W ⟨rfl,_⟩ sm u;have C:=u.hb o;obtain⟨e5,X⟩:=(s1.ext o u).drop (n:=l.length-4) a_;rw[e5];simp only[Aa];have:=Bft (K:=K) (x:=.slice b off l.length r op) h4 L E h K 0 W a_ c_ C (B.trans u) (s1.ext o u) X (fun j hj=>absurd hj (cT _));rw[Nat.pow_zero,Nat.div_one]at this;rw[show l.length-(l.length-4)=4 from a_]at this⊢;exact this
structure Rd(h:Ab)(R q off:Nat)(l:List Nat):Prop where
 Ly:∃s,h.get R=some (.cells [s,.bool false] 242)/\lenOf s=some l.length/\(0<l.length->s=.slice q off l.length l.length true/\Bs h s q off l)
 ne:q<R
theorem Rd.ext{R q:Nat}{l:List Nat}(d:Rd h R q off l)(hb:HB h)(c:Ext h h'):Rd h' R q off l:=by
 obtain⟨s,g,e,f⟩:=d.Ly;exact⟨⟨s,c.at hb g,e,fun y=>⟨(f y).1,(f y).2.ext hb c⟩⟩,d.ne⟩
theorem vr{x:EV}{l:List Nat}(s:Bs h x b off l)(hb:HB h)(h0:0<l.length:=by omega)(U:l.length<=5000:=by omega):
 Ok (oy K x h) fun v h'=>∃R q,v=.ptr R 0/\Rd h' R q 0 l/\Ext h h'/\HB h'/\h.next<=q:=by
 simp only[oy,dr];rw[show By [(.int .u8 0)] 5 1 0 [] h=some (.slice h.next 0 0 0 false,h.new (.cells [] 5))from rfl,Aq];have u:Ext h (h.new (.cells [] 5)):=Aw.new _ _;have s1:=s.ext hb u;generalize h.new (.cells [] 5)=W at u s1⊢;have B:=u.hb hb;refine(X5 (b:=h.next) (e:=5) s1.len a_ s1.cells (by rw[Bf,cD]) 0).Al ?_;rintro v h2 ⟨q',C,L,O⟩;have o:=L.hb B;have E:=C.slice h0;subst E;rw[Ax (l:=[.slice q' 0 l.length l.length true,.bool false]) rfl];simp only[Aa];have J:Ext h2 (h2.new (.cells [.slice q' 0 l.length l.length true,.bool false] 242)):=Aw.new _ _;have T:=(C.bs h0).ext o J;refine .ret ⟨h2.next,q',rfl,⟨⟨_,Ad _ _,rfl,fun _=>⟨rfl,T⟩⟩,o _ _ (C.block h0)⟩,u.trans (L.trans J),J.hb o,?_⟩;have:=O h0;have:=u.next
 omega
theorem UE{R q:Nat}{l:List Nat}(d:Rd h R q off l)(hb:HB h)(h0:0<n)(E:n<=l.length):
 Ok (Kl K (.ptr R 0) (I n) h) fun v h'=>Bs h' v q off (l.take n)/\Rd h' R q (off+n) (l.drop n)/\Aw (fun i=>i=R) h h'/\HB h':=by
 obtain⟨s,g,e,f⟩:=d.Ly;obtain⟨rfl,s1⟩:=f a_;have C:=hb _ _ g;have J:R≠q:=by have:=d.ne;omega
 simp only[Kl,Aa,Cy g rfl,Ac,I];rw[show decide ((n:Int)<0)=false from aS a_];simp only[Aa,JH,Ac,Cy g rfl];rw[show decide ((l.length:Int)<(n:Int))=false from aS a_];simp only[Aa,JG,JF,Cy g rfl];have e1:∀k:EV->Go.Ev.R,il 1 (.slice q off l.length l.length true) none (some (.int .i64 (n:Int))) (some (.int .i64 (n:Int))) k=k (.slice q off n n false):=fun k=>by
  have:iJ (.slice q off l.length l.length true) 1 none (some (.int .i64 (n:Int))) (some (.int .i64 (n:Int)))=some (.slice q off n n false):=by
   have b1:bound (some (.int .i64 (n:Int))) l.length 0=some n:=by
    show Bb (Nat.ble n l.length) (some n) none=_;rw[aM E,Aj]
   have b2:bound (some (.int .i64 (n:Int))) n 0=some n:=by
    show Bb (Nat.ble n n) (some n) none=_;rw[aM (aD _),Aj]
   unfold iJ;simp only[b1,b2];show some (EV.slice q (Bb (Nat.beq n 0) off (Nat.add off (Nat.mul 0 1))) n n false)=_;rw[show Nat.add off (Nat.mul 0 1)=off from rfl];cases Nat.beq n 0<;>rfl
  unfold il;rw[this];rfl
 rw[e1];obtain⟨r',W,o,row,f1,f0,f2,f3,f4,f5⟩:=s1.Ly;have u:(l.take n).length=n:=by rw[bH,eB E]
 have B:(l.drop n).length=l.length-n:=aU;have U:Bs h (.slice q off n n false) q off (l.take n):=by
  refine⟨n,false,o,row,by rw[u],by rw[u];exact aD _,f2,f3,by rw[u];omega,?_⟩;rw[u];have:=congrArg (fun z=>z.take n) f5;simp only[List.take_take,eB E]at this;rw[this];unfold Bh;rw[List.map_take]
 have put:∀w:EV,(h.put R (.cells [w,.bool false] 242)).get q=h.get q:=fun w=>Ae _ J
 rcases dJ n l.length with L|X
 ·obtain⟨e2,s2⟩:=s1.drop L
  rw[e2];refine Ok.Z7 g rfl rfl (by show 0<2;decide) ?_;refine .ret ⟨U.frame (put _),⟨⟨_,Af _ _ _,by rw[B];rfl,fun _=>⟨by rw[B],s2.frame (put _)⟩⟩,d.ne⟩,(Aw.refl (S:=fun i=>i=R) h).Ao (.inl rfl) C _,hb.put C _⟩
 ·have O:n=l.length:=a_
  subst O;have e2:∀k:EV->Go.Ev.R,il 1 (.slice q off l.length l.length true) (some (.int .i64 (l.length:Int))) none none k=k (.tail q (off+l.length) off):=fun k=>by
   have:iJ (.slice q off l.length l.length true) 1 (some (.int .i64 (l.length:Int))) none none=some (.tail q (off+l.length) off):=by
    have b1:bound (some (.int .i64 (l.length:Int))) l.length 0=some l.length:=by
     show Bb (Nat.ble l.length l.length) (some l.length) none=_;rw[aM (aD _),Aj]
    have b2:bound none l.length l.length=some l.length:=rfl;unfold iJ;simp only[b1,b2];rw[Aj];have z1:Nat.beq l.length 0=false:=by
     cases T:Nat.beq l.length 0 with
     | false=>rfl
     | true=>have:=aJ T;omega
    have Y:Nat.ble (Nat.succ l.length) l.length=false:=by
     cases T:Nat.ble (Nat.succ l.length) l.length with
     | false=>rfl
     | true=>have:=bG T;omega
    rw[z1,Bk,Y,Bk,cP,Aj,Aj,show Nat.mul l.length 1=l.length from cD _];rfl
   unfold il;rw[this];rfl
  rw[e2];refine Ok.Z7 g rfl rfl (by show 0<2;decide) ?_;refine .ret ⟨U.frame (put _),⟨⟨_,Af _ _ _,by rw[B,fM];rfl,fun y=>by rw[B,fM]at y;exact absurd y (bU _)⟩,d.ne⟩,(Aw.refl (S:=fun i=>i=R) h).Ao (.inl rfl) C _,hb.put C _⟩
def Lx:List Nat->Nat
 | []=>0
 | b::r=>b+256*Lx r
theorem zk:∀(a:List Nat) (b:Nat),Lx (a++[b])=Lx a+256^a.length*b
 | [],b=>by simp[Lx]
 | x::a,b=>by
  have:=zk a b;simp only[List.cons_append,Lx,this,bP,eU];rw[Nat.mul_add,<-Nat.add_assoc,fm (256^a.length) 256,Nat.mul_assoc]
theorem vq:∀(a:List Nat),(∀b∈a,b<256)->Lx a<256^a.length
 | [],_=>by simp[Lx]
 | x::a,h=>by
  have o:=h x (aW ..);have h2:=vq a fun b hb=>h b (aV _ hb)
  simp only[Lx,bP,eU];omega
theorem wrap_u64(a:Nat):Cs .u64 (Int.ofNat a)=Int.ofNat (a%18446744073709551616):=by
 rw[L7];rfl
theorem Bn9 {a s:Nat}(hs:s<=64)(hb:a*2^s<9223372036854775808){k:EV->Go.Ev.R}:iA (bin TT .shl t) (.int .i64 (Int.ofNat a)) (.int .u64 (Int.ofNat s)) k=k (Nk .i64 (a*2^s)):=by
 show k (.int .i64 (Cs .i64 (Int.mul (.ofNat a) (.ofNat (Nat.pow 2 (Bb (Nat.ble s 64) s 64))))))=_;rw[aM hs,Aj];have:Int.mul (.ofNat a) (.ofNat (Nat.pow 2 s))=((a*2^s:Nat):Int):=rfl;rw[this,Ci];rfl
theorem Brj {a:Nat}(h:a||| b<9223372036854775808){k:EV->Go.Ev.R}:iA (bin TT .or t) (.int .i64 (Int.ofNat a)) (.int .i64 (Int.ofNat b)) k=k (Nk .i64 (a||| b)):=by
 show k (.int .i64 (Cs .i64 (.ofNat (Nat.lor a b))))=_;have:Int.ofNat (Nat.lor a b)=((a||| b:Nat):Int):=rfl;rw[this,Ci];rfl
theorem Bk5{x:EV}{l:List Nat}(L:∀b∈l,b<256)(W:l.length<=7):∀(m i:Nat) (h:Ab),l.length-i<m->i<=l.length->Bs h x b off l ->
 K5 K m (Nk .i64 (Lx (l.take i))) x (I l.length) (I i) h=some (Nk .i64 (Lx l),h):=by
 intro m;induction m with
 | zero=>intro i h hm;omega
 | succ m ih=>
  intro i h hm U s;simp only[K5,I,Ac,Aa];by_cases B:(i:Int)<l.length
  ·have o:i<l.length:=a_
   obtain⟨e1,e2⟩:=s.ix o;have hb:=L _ (aZ o);simp only[B,aB,Aa,KS,e1,e2,Ac];have O:(256:Nat)^i=2^(8*i):=by rw[Nat.pow_mul]
   have u:(256:Nat)^i<=256^6:=eZ c_ a_;have u:(256:Nat)^i<=281474976710656:=u;have hmul:l[i]*256^i<=255*281474976710656:=gJ a_ u;rw[show Cs .i64 (Int.ofNat l[i])=Int.ofNat l[i]from Ci (by show _<=((l[i]:Nat):Int);omega) (by show((l[i]:Nat):Int)<=_;omega)];rw[show(8:Int)*(i:Int)=((8*i:Nat):Int) from a_,Ci];rw[show Cs .u64 ((8*i:Nat):Int)=Int.ofNat (8*i)from by have:=wrap_u64 (8*i);rw[fV a_]at this;exact this];rw[Bn9 a_ (by rw[<-O];omega)];have T:(l.take i).length=i:=by rw[bH,eB U]
   have C:Lx (l.take i)<2^(8*i):=by
    have:=vq (l.take i) fun b hb=>L b (bS hb)
    rw[T,O]at this;exact this
   have E:Lx (l.take i)||| l[i]*2^(8*i)=Lx (l.take (i+1)):=by
    rw[List.take_add_one,aF o];show _=Lx (l.take i++[l[i]]);rw[zk,T,Nat.or_comm,fm l[i],<-Nat.two_pow_add_eq_or_of_lt C,O,Nat.add_comm]
   have J:Lx (l.take (i+1))<9223372036854775808:=by
    have:=vq (l.take (i+1)) fun b hb=>L b (bS hb)
    have h2:(256:Nat)^(l.take (i+1)).length<=256^7:=eZ c_ (by rw[bH];omega);have X:(256:Nat)^7=72057594037927936:=c_
    omega
   rw[Brj (by rw[E];exact J),E];simp only[KR,I,Ac];rw[Ci];exact ih (i+1) h a_ a_ s
  ·have:i=l.length:=a_
   subst this;simp only[B,aA,Aa,KQ,cF]
theorem Lk{R q w:Nat}{l:List Nat}(d:Rd h R q off l)(hb:HB h)(hK:1000<K)(B:1<=w)(E:w<=7)(u:w<=l.length)(C:∀b∈l,b<256):
 Ok (Eo K (.ptr R 0) (I w) h) fun v h'=>v=Nk .i64 (Lx (l.take w))/\Rd h' R q (off+w) (l.drop w)/\Aw (fun i=>i=R) h h'/\HB h':=by
 simp only[Eo,dr];rw[vZ,aQ ⟨a_,a_⟩];simp only[Aa,KT];refine(UE (K:=K) d hb B u).Al ?_;rintro v h2 ⟨s,d2,c2,o⟩;rw[s.Fz];have J:(l.take w).length=w:=by rw[bH,eB u]
 have:=Bk5 (K:=K) (l:=l.take w) (fun b hb=>C b (bS hb)) a_ K 0 h2 a_ (cO _) s;rw[show EV.int .i64 0=Nk .i64 (Lx ((l.take w).take 0))from rfl];exact⟨_,_,this,rfl,d2,c2,o⟩
theorem UF{R q:Nat}{l:List Nat}(d:Rd h R q off l)(hb:HB h)(h0:0<n)(o:n<=l.length:=by omega):
 Ok (Mf K (.ptr R 0) (I n) h) fun v h'=>Bs h' v q off (l.take n)/\Rd h' R q (off+n) (l.drop n)/\Aw (fun i=>i=R) h h'/\HB h':=by
 simp only[Mf,dr];refine(UE (K:=K) d hb h0 o).Al ?_;intro v h2 p;exact .ret p
theorem Bp1{R q:Nat}(d:Rd h R q off []):Sl K (.ptr R 0) h=some (I 0,h):=by
 obtain⟨s,g,e,f⟩:=d.Ly;simp only[Sl,Aa,Cy g rfl,Ac];have:∀k:EV->Go.Ev.R,Fz s k=k (I 0):=fun k=>by unfold Fz;rw[e];rfl
 rw[this];simp only[I,Ac];rfl
structure Fr where
 kind:Int
 Am:Int
 off:Int
 As:Int
 seq:Int
 body:List Nat
def Fr.cells(f:Fr):List EV:=[I f.kind,I f.Am,I f.off,I f.As,I f.seq]++Bh f.body
structure Fr.Wf(f:Fr):Prop where
 len:f.body.length=44
 u8:∀b∈f.body,b<256
def hQ(f:Fr):Bool:=wi f.kind 1 5&&(wi f.Am 0 65535&&(wi f.off 0 65535&&(wi f.As 1 4294967295&&wi f.seq 0 281474976710655)))
theorem Q7(n a b:Int)(h:Ab):On K (.int .i64 n) (.int .i64 a) (.int .i64 b) h=some (.bool (wi n a b),h):=by
 simp only[On,Ac,Aa];by_cases o:a<=n
 ·simp only[o,aB,Aa,Ac,xm,wi,bF]
 ·simp only[o,aA,Aa,xm,wi,bB]
theorem Fr.Ay {f:Fr}(w:f.Wf):f.cells.length=49:=by
 unfold Fr.cells;rw[aE,Bf,w.len];rfl
theorem zm(f:Fr):Ok (Ku K (.agg f.cells) h) fun v h'=>v=.bool (hQ f)/\Ext h h':=by
 simp only[Ku,Aa];obtain⟨L,B,o,u,_⟩:=nW h (.cells f.cells 136);rw[B];have l0:f.cells[0]? = some (I f.kind):=rfl;have l1:f.cells[1]? = some (I f.Am):=rfl;have C:f.cells[2]? = some (I f.off):=rfl;have E:f.cells[3]? = some (I f.As):=rfl;have J:f.cells[4]? = some (I f.seq):=rfl;simp only[Cy u rfl,Aa,l0,I,Q7,Ac];unfold hQ;cases wi f.kind 1 5 with
 | false=>simp only[Aa,Sv,Ny,J7,Ho,Ac];exact .ret ⟨rfl,o⟩
 | true=>
 simp only[Aa,Cy u rfl,l1,I,Q7,Ac,Sv];cases wi f.Am 0 65535 with
 | false=>simp only[Aa,Ny,J7,Ho,Ac];exact .ret ⟨rfl,o⟩
 | true=>
 simp only[Aa,Cy u rfl,C,I,Q7,Ac,Ny];cases wi f.off 0 65535 with
 | false=>simp only[Aa,J7,Ho,Ac];exact .ret ⟨rfl,o⟩
 | true=>
 simp only[Aa,Cy u rfl,E,I,Q7,Ac,J7];cases wi f.As 1 4294967295 with
 | false=>simp only[Aa,Ho,Ac];exact .ret ⟨rfl,o⟩
 | true=>
 simp only[Aa,Cy u rfl,J,I,Q7,Ac,Ho];exact .ret ⟨by simp only[bF],o⟩
def jX(f:Fr):List Nat:=N1 1 f.kind.toNat++N1 1 1++N1 2 f.Am.toNat++N1 2 f.off.toNat++N1 4 f.As.toNat++N1 6 f.seq.toNat++f.body
def Mh(f:Fr):List Nat:=jX f++N1 4 (Gh (jX f))
theorem Jr(w a:Nat):∀b∈N1 w a,b<256:=fun b hb=>by
 unfold N1 at hb;obtain⟨i,_,rfl⟩:=b9.1 hb;exact Nat.mod_lt _ c_
theorem qo {f:Fr}(w:f.Wf):(jX f).length=60:=by
 unfold jX;simp only[aE,C9,w.len]
theorem qE {f:Fr}(w:f.Wf):(Mh f).length=64:=by
 unfold Mh;rw[aE,qo w,C9]
theorem UG {f:Fr}(w:f.Wf):∀b∈jX f,b<256:=fun b hb=>by
 unfold jX at hb;simp only[bO]at hb;rcases hb with(((((hb|hb)|hb)|hb)|hb)|hb)|hb
 ·exact Jr _ _ b hb
 ·exact Jr _ _ b hb
 ·exact Jr _ _ b hb
 ·exact Jr _ _ b hb
 ·exact Jr _ _ b hb
 ·exact Jr _ _ b hb
 ·exact w.u8 b hb
theorem AS {f:Fr}(w:f.Wf):∀b∈Mh f,b<256:=fun b hb=>by
 unfold Mh at hb;rcases bO.1 hb with hb|hb
 ·exact UG w b hb
 ·exact Jr _ _ b hb
theorem Y9 {w:Nat}{b:Int}(h0:0<=v)(hb:v<=b)(hw:b<(256^w:Nat)):fits w v=true:=aQ ⟨h0,a_⟩
theorem AO{f:Fr}(w:f.Wf)(hr:hQ f=true)(hb:HB h)(hK:10000<K):
 Ok (X6 K U1 (.agg f.cells) h) fun v h'=>v=.tuple [.agg (Bh (Mh f)),I 0]/\Ext h h':=by
 have aq:=hr;simp only[hQ,bD]at aq;obtain⟨r1,r2,r3,r4,r5⟩:=aq;obtain⟨a1,b1⟩:=J8.1 r1;obtain⟨a2,b2⟩:=J8.1 r2;obtain⟨a3,b3⟩:=J8.1 r3;obtain⟨a4,b4⟩:=J8.1 r4;obtain⟨a5,b5⟩:=J8.1 r5;have l0:f.cells[0]? = some (I f.kind):=rfl;have l1:f.cells[1]? = some (I f.Am):=rfl;have l2:f.cells[2]? = some (I f.off):=rfl;have l3:f.cells[3]? = some (I f.As):=rfl;have l4:f.cells[4]? = some (I f.seq):=rfl;have au:=Fr.Ay w;unfold U1;simp only[X6,Aa];have x1:Ext h (((h.new (.cells Bc 73)).new (.cells f.cells 136)).new (.cells Vh 32)):=((Aw.new _ _).Da _).Da _;have B:(((h.new (.cells Bc 73)).new (.cells f.cells 136)).new (.cells Vh 32)).get h.next=some (.cells Bc 73):=by
  rw[Az _ (by show h.next<h.next+1+1;omega),Az _ (aO _)];exact Ad _ _
 have u:(((h.new (.cells Bc 73)).new (.cells f.cells 136)).new (.cells Vh 32)).get (h.next+1)=some (.cells f.cells 136):=by
  rw[Az _ (by show h.next+1<h.next+1+1;omega)];exact Ad _ _
 have g4:(((h.new (.cells Bc 73)).new (.cells f.cells 136)).new (.cells Vh 32)).get (h.next+2)=some (.cells Vh 32):=Ad _ _;have n1:(((h.new (.cells Bc 73)).new (.cells f.cells 136)).new (.cells Vh 32)).next=h.next+3:=rfl
 rw[show(h.new (.cells Bc 73)).next=h.next+1 from rfl,show((h.new (.cells Bc 73)).new (.cells f.cells 136)).next=h.next+2 from rfl,show List.replicate 64 (EV.int .u8 0)=Vh from rfl];generalize ((h.new (.cells Bc 73)).new (.cells f.cells 136)).new (.cells Vh 32)=h1 at x1 B u g4 n1⊢;have U:=x1.hb hb;rw[Cv u rfl,Ai au];simp only[G6];refine(zm (K:=K) f).Al ?_;rintro _ h2 ⟨rfl,x2⟩;rw[hr];simp only[Aa,ME];have W:=x2.hb U;have a8:=x1.trans x2;have B:=x2.at U B;have u:=x2.at U u;have g4:=x2.at U g4;have n2:h.next+3<=h2.next:=by have:=x2.next;omega
 have p0:lJ (h2.new (.cells [.An,.bool false] 222)) h2.next 222 [] false:=⟨.An,0,Ad _ _,.nil _ _ _ _,fun y=>absurd y (bU _)⟩
 have x3:Ext h2 (h2.new (.cells [.An,.bool false] 222)):=Aw.new _ _;have B:=x3.at W B;have u:=x3.at W u;have g4:=x3.at W g4;have J:=x3.hb W;have aw:=a8.trans x3;generalize h2.new (.cells [.An,.bool false] 222)=h3 at p0 x3 B u g4 J aw⊢;generalize hP:h2.next=P at p0 n2⊢
 have up:∀{ha hc:Ab},Ext h ha->Aw (fun i=>P<=i) ha hc->Ext h hc:=fun x c=>x.then c fun j hj hl=>by
  have hj:P<=j:=hj;omega
 have C:∀{ha hc:Ab} {i:Nat} {o:Ds},Aw (fun i=>P<=i) ha hc->HB ha->ha.get i=some o->i<P->hc.get i=some o:=fun c hb g hi=>c.at hb g a_
 simp only[Cy u rfl,l0];simp only[G6];refine(Ml (K:=K) (w:=1) a_ p0 J (by simp) c_ c_ (v:=f.kind)).Al ?_;rintro _ h5 ⟨p,c,X⟩;rw[Y9 (b:=5) a_ b1 c_,aN rfl]at p;have x5:=up aw c;have B:=C c J B a_;have u:=C c J u a_;have g4:=C c J g4 a_;refine(Ml (K:=K) (w:=1) a_ p X (by simp[C9]) c_ c_ (v:=1)).Al ?_;rintro _ h6 ⟨p,c,Y⟩;rw[Y9 (b:=1) a_ (Int.le_refl _) c_,aN rfl]at p;have x6:=up x5 c;have B:=C c X B a_;have u:=C c X u a_;have g4:=C c X g4 a_;simp only[Aa,Cy u rfl,l1];refine(Ml (K:=K) (w:=2) a_ p Y (by simp[C9]) c_ c_ (v:=f.Am)).Al ?_;rintro _ h7 ⟨p,c,aa⟩;rw[Y9 (b:=65535) a2 b2 c_,aN rfl]at p;have x7:=up x6 c;have B:=C c Y B a_;have u:=C c Y u a_;have g4:=C c Y g4 a_;simp only[Aa,Cy u rfl,l2];refine(Ml (K:=K) (w:=2) a_ p aa (by simp[C9]) c_ c_ (v:=f.off)).Al ?_;rintro _ h8 ⟨p,c,ab⟩;rw[Y9 (b:=65535) a3 b3 c_,aN rfl]at p;have x8:=up x7 c;have B:=C c aa B a_;have u:=C c aa u a_;have g4:=C c aa g4 a_;simp only[Aa,Cy u rfl,l3];refine(Ml (K:=K) (w:=4) a_ p ab (by simp[C9]) c_ c_ (v:=f.As)).Al ?_;rintro _ h9 ⟨p,c,ad⟩;rw[Y9 (b:=4294967295) a_ b4 c_,aN rfl]at p;have x9:=up x8 c;have B:=C c ab B a_;have u:=C c ab u a_;have g4:=C c ab g4 a_;simp only[Aa,Cy u rfl,l4];refine(Ml (K:=K) (w:=6) a_ p ad (by simp[C9]) c_ c_ (v:=f.seq)).Al ?_;rintro _ ay ⟨p,c,L⟩;rw[Y9 (b:=281474976710655) a5 b5 c_,aN rfl]at p;have ba:=up x9 c;have B:=C c ad B a_;have u:=C c ad u a_;have g4:=C c ad g4 a_
 try simp only[Aa]
 rw[show ∀k:EV->R,Oa 44 1 (.ptr (h.next+1) 5) none none none k=k (.slice (h.next+1) 5 44 44 false)from fun k=>rfl];have bb:Pw ay 1 44 (.slice (h.next+1) 5 44 44 false)=some (Bh f.body):=by
  show Xk ay (h.next+1) 5 44=_;unfold Xk mi;rw[u];show Ke f.cells 5 44=_;rw[E4 (by rw[au];decide)];show some (List.take 44 (Bh f.body))=_;rw[bK (by rw[Bf,w.len];decide)]
 refine(UB (K:=K) (n:=44) p L (by simp[C9]) rfl c_ c_ bb w.len).Al ?_;rintro _ cG ⟨p,c,O⟩;have bf:=up ba c;have B:=C c L B a_;have g4:=C c L g4 a_;have ep:([]++N1 1 f.kind.toNat++N1 1 (1:Int).toNat++N1 2 f.Am.toNat++N1 2 f.off.toNat++N1 4 f.As.toNat++N1 6 f.seq.toNat++f.body)=jX f:=by
  unfold jX;rw[cS];rfl
 have az:∀b:Bool,(b||!true)=b:=c_
 rw[ep]at p;simp only[az]at p;refine(UC (K:=K) p O (by rw[qo w];decide)).Al ?_;rintro _ c0 ⟨y,q',rfl,ry,T,af,lq⟩;have B:=T.at O B;have g4:=T.at O g4;simp only[Aa,I,Ac];simp only[aC,aA,Aa,MD];rw[Cv B rfl,Ai Qo];simp only[G6];have ag:0<(jX f).length:=by rw[qo w];decide
 refine(Bp3 (K:=K) hK (ry.bs ag) af (UG w) ag (by rw[qo w];decide)).Al ?_;rintro v ai ⟨q2,ae,ah,a6,c6⟩;have ae:Bu ai v q2 5 1 (Mh f).length (Bh (Mh f)):=ae;have g4:=ah.at af g4;have E:=qE w;have bk:=ae.slice (by rw[E];decide);subst bk;rw[show ∀k:EV->R,oe 64 (.slice q2 0 (Mh f).length (Mh f).length true) k=k (.ptr q2 0)from fun k=>by rw[E];rfl];rw[Cv (ae.block (by rw[E];decide)) rfl,Ai (by rw[Bf,E])];simp only[G6];refine Ok.st (Bh (Mh f)) g4 rfl (by show Fw (Bh (Mh f))=64;rw[Be,Bf,E]) (Bl (by rw[K4];show 64=(Bh (Mh f)).length;rw[Bf,E])) ?_;have bn:(ai.put (h.next+2) (.cells (Bh (Mh f)) 32)).get (h.next+2)=some (.cells (Bh (Mh f)) 32):=Af _ _ _;rw[Du bn kr.1 kr.2 (by rw[Bf,E])];have xx:Ext h ai:=bf.trans (T.trans ah);exact .ret ⟨rfl,xx.Ao (.inr a_) (a6 _ _ g4) _⟩
variable {f:Fr}
theorem Ok.kG{o:Nat}{l:List EV}{v:EV}(u:h.get i=some (.cells l t))(hb:HB h)(B:v.plain=true)(C:v.cells = [v])(E:o<l.length)
 (J:∀h',h'.get i=some (.cells (l.set o v) t)->Aw (fun j=>j=i) h h'->HB h'->Ok (kk h') Q):Ok (Vz 1 (.ptr i o) v h kk) Q:=by
 have lt:=hb _ _ u;exact Ok.Z7 u B C E (J _ (Af _ _ _) ((Aw.refl (S:=fun j=>j=i) h).Ao (.inl rfl) lt _) (hb.put lt _))
theorem qS:∀(hd Cn new:List EV),Cn.length=new.length->Fx (hd++Cn) hd.length new=some (hd++new)
 | [],Cn,new,h=>by
  have:=Bl (l:=Cn) (vs:=new) h;rw[Vg]at this;exact this
 | a::hd,Cn,new,h=>by
  have ih:=qS hd Cn new h;show Bb (Nat.beq (hd.length+1) 0) _ (match Fx (hd++Cn) hd.length new with|some x=>some (a::x)|none=>none)=_;rw[show Nat.beq (hd.length+1) 0=false from rfl,Bk,ih];rfl
theorem zo{r:Nat}{t:TypeId}{hd Cn new:List EV}{y:EV}(g:h.get i=some (.cells (hd++Cn) t))(B:lenOf y=some n)(C:0<n)(u:Pw h 1 n y=some new)(E:new.length=n)(J:Cn.length=n):
 builtin TT .copy #[106,106] [.slice i hd.length n r op,y] h=some (I n,h.put i (.cells (hd++new) t)):=by
 have hu:TT.Ud 106=some (.slice 5):=by kernel_rfl
 have hs:TT.size 5=some 1:=by kernel_rfl
 have hb:Nat.ble n n=true:=aM (aD _);have h0:Nat.beq n 0=false:=by cases n with|zero=>omega|succ n=>rfl
 have hw:Mx h i hd.length new=some (h.put i (.cells (hd++new) t)):=by
  unfold Mx;rw[g];simp only;rw[qS hd Cn new a_]
 rw[sV]at u;have o:lenOf (.slice i hd.length n r op)=some n:=rfl;unfold builtin;simp only[hu,hs,o,B,hb,Aj,h0,Bk,u,hw];rfl
theorem Rd.chg{R q:Nat}{l:List Nat}{S:Nat->Prop}(d:Rd h R q off l)(hb:HB h)(c:Aw S h h')(o:¬S q)(u:¬S R):Rd h' R q off l:=by
 obtain⟨s,g,e,f⟩:=d.Ly;exact⟨⟨s,c.at hb g u,e,fun y=>⟨(f y).1,(f y).2.frame (c.get _ ((f y).2.lt hb) o)⟩⟩,d.ne⟩
def Fr.zero:Fr:=⟨0,0,0,0,0,List.replicate 44 0⟩
theorem Fr.Ii:List.replicate 5 (EV.int .i64 0)++List.replicate 44 (EV.int .u8 0)=Fr.zero.cells:=by kernel_rfl
def lK(p:List Nat):Fr:=⟨Lx (p.take 1),Lx (((p.drop 1).drop 1).take 2),Lx ((((p.drop 1).drop 1).drop 2).take 2),Lx (((((p.drop 1).drop 1).drop 2).drop 2).take 4),Lx ((((((p.drop 1).drop 1).drop 2).drop 2).drop 4).take 6),(((((((p.drop 1).drop 1).drop 2).drop 2).drop 4).drop 6).take 44)⟩
def Yn(s:List Nat):Fr × Int:=
 if o7 s=false then(Fr.zero,11)else
 if Lx (((s.take 60).drop 1).take 1)=1/\hQ (lK (s.take 60))=true then(lK (s.take 60),0)else(Fr.zero,10)
theorem qp:TT.size 136=some 49/\TT.agg 136=some true:=⟨by kernel_rfl,by kernel_rfl⟩
theorem UH {p:List Nat}(o:p.length=60)(hu:∀b∈p,b<256):(lK p).Wf:=by
 refine⟨?_,fun b hb=>hu b ?_⟩
 ·simp only[lK,bH,aU,o];decide
 ·simp only[lK]at hb
  exact aG (aG (aG (aG (aG (aG (bS hb))))))
theorem Fr.G7:Fr.zero.Wf:=⟨by simp[Fr.zero],fun b hb=>by rw[cC hb];decide⟩
theorem Bpg {s:List Nat}(o:s.length=64)(hu:∀b∈s,b<256):(Yn s).1.Wf:=by
 unfold Yn;split
 ·exact Fr.G7
 ·split
  ·exact UH (by rw[bH,o];decide) fun b hb=>hu b (bS hb)
  ·exact Fr.G7
theorem Ay3{s:List Nat}(hl:s.length=64)(hu:∀b∈s,b<256)(hb:HB h)(hK:10000<K):
 Ok (tS K U1 (.agg (Bh s)) h) fun v h'=>v=.tuple [.agg (Yn s).1.cells,I (Yn s).2]/\Ext h h':=by
 unfold U1;simp only[tS,Aa];rw[Fr.Ii];have x1:Ext h (((h.new (.cells Bc 73)).new (.cells (Bh s) 32)).new (.cells Fr.zero.cells 136)):=((Aw.new _ _).Da _).Da _;have g2:(((h.new (.cells Bc 73)).new (.cells (Bh s) 32)).new (.cells Fr.zero.cells 136)).get h.next=some (.cells Bc 73):=by
  rw[Az _ (by show h.next<h.next+1+1;omega),Az _ (aO _)];exact Ad _ _
 have g3:(((h.new (.cells Bc 73)).new (.cells (Bh s) 32)).new (.cells Fr.zero.cells 136)).get (h.next+1)=some (.cells (Bh s) 32):=by
  rw[Az _ (by show h.next+1<h.next+1+1;omega)];exact Ad _ _
 have g4:(((h.new (.cells Bc 73)).new (.cells (Bh s) 32)).new (.cells Fr.zero.cells 136)).get (h.next+2)=some (.cells Fr.zero.cells 136):=Ad _ _;have n1:(((h.new (.cells Bc 73)).new (.cells (Bh s) 32)).new (.cells Fr.zero.cells 136)).next=h.next+3:=rfl
 rw[show(h.new (.cells Bc 73)).next=h.next+1 from rfl,show((h.new (.cells Bc 73)).new (.cells (Bh s) 32)).next=h.next+2 from rfl];generalize ((h.new (.cells Bc 73)).new (.cells (Bh s) 32)).new (.cells Fr.zero.cells 136)=h1 at x1 g2 g3 g4 n1⊢;have az:=x1.hb hb;have dt:=az _ _ g2;have zl:=Fr.Ay Fr.G7;have fin:∀(f:Fr) (e:Int) (h5:Ab) (kk:Ab->R),(∀h',kk h'=Gi TT [.c (.ptr (h.next+2) 0) 136,.v (I e)] h')->HB h5->Ext h h5->h5.get (h.next+2)=some (.cells Fr.zero.cells 136)->f.Wf->(f,e)=Yn s ->
  Ok (Vz 49 (.ptr (h.next+2) 0) (.agg f.cells) h5 kk) fun v h'=>v=.tuple [.agg (Yn s).1.cells,I (Yn s).2]/\Ext h h':=by
  intro f e h5 kk du ah x5 g5 wf he;have fl:=Fr.Ay wf;refine Ok.st f.cells g5 rfl (by show Fw f.cells=49;rw[Be,fl]) (Bl (by rw[zl];exact fl.symm)) ?_;have g6:(h5.put (h.next+2) (.cells f.cells 136)).get (h.next+2)=some (.cells f.cells 136):=Af _ _ _;rw[du,Du g6 qp.1 qp.2 fl,<-he];exact .ret ⟨rfl,x5.Ao (.inr a_) (ah _ _ g5) _⟩
 simp only[Cj dt,Ar,Aa,Cv g2 rfl,Ai Qo];rw[show ∀k:EV->R,Oa 64 1 (.ptr (h.next+1) 0) none none none k=k (.slice (h.next+1) 0 64 64 false)from fun k=>rfl];have bs:Bs h1 (.slice (h.next+1) 0 s.length 64 false) (h.next+1) 0 s:=by
  refine⟨64,false,_,Bh s,rfl,a_,g3,rfl,by rw[Bf];omega,?_⟩;rw[dK,<-Bf,cF]
 have ct:=Box (K:=K) hK bs.lift (Cz az) hu a_ a_;rw[hl]at ct;refine Ok.bE ct (fun _ _ p=>p.1) ?_;rintro v h2 h3 ⟨_,_,hv⟩ sm x3;have bk:=x3.hb az;have g4:=x3.at az g4;have cw:=x1.trans x3;rcases hv with⟨ho,rfl⟩|⟨ho,y,q',rfl,ry,lq⟩
 ·simp only[Aa,I,Ac]
  simp only[show ¬((11:Int)=0) from c_,aH,aB,Aa];rw[Ax (l:=Fr.zero.cells) rfl];exact fin Fr.zero 11 h3 _ (fun _=>rfl) bk cw g4 Fr.G7 (by unfold Yn;rw[aN ho])
 ·have dx:¬o7 s=false:=by rw[ho];simp
  simp only[Aa,I,Ac];simp only[aC,aA,Aa,MH];have dy:s.length-4=60:=a_
  rw[dy]at ry;have cx:(s.take 60).length=60:=by rw[bH,hl];decide
  have U:∀b∈s.take 60,b<256:=fun b hb=>hu b (bS hb)
  have cA:Bu h3 y q' 5 1 (s.take 60).length (Bh (s.take 60)):=ry.frame fun _=>sm.get _
  have ai:Yn s=if Lx (((s.take 60).drop 1).take 1)=1/\hQ (lK (s.take 60))=true then(lK (s.take 60),0)else(Fr.zero,10):=by unfold Yn;rw[aK dx]
  have L:=UH cx U;rw[ai]at fin⊢;unfold lK at fin ai L⊢;generalize s.take 60=p at cA cx U fin ai L⊢;refine(vr (K:=K) (cA.bs a_) bk).Al ?_;rintro _ h5 ⟨Rr,q,rfl,d0,x5,ah,eN⟩;have g4:=x5.at bk g4;have dA:=cw.trans x5;have eP:Rr<h5.next:=by obtain⟨_,g,_⟩:=d0.Ly;exact ah _ _ g
  have eT:h.next+2<Rr:=by have:=d0.ne;have:=x3.next;omega
  have up:∀{W hc:Ab},Ext h W->Aw (fun i=>i=Rr) W hc->Ext h hc:=fun x c=>x.then c fun j hj dB=>by
   have hj:j=Rr:=hj;omega
  have Hb:∀{W hc:Ab} {i:Nat} {o:Ds},Aw (fun i=>i=Rr) W hc->HB W->W.get i=some o->i≠Rr->hc.get i=some o:=fun c hb g hi=>c.at hb g hi
  refine(Lk (K:=K) (w:=1) d0 ah a_ c_ c_ a_ U).Al ?_;rintro _ h6 ⟨rfl,d1,c6,bn⟩;have g4:=Hb c6 ah g4 a_;have x6:=up dA c6;rw[Ax (l:=(⟨Lx (p.take 1),0,0,0,0,List.replicate 44 0⟩:Fr).cells) rfl]
  try simp only[Aa]
  rw[Fr.Ii];have x7:Ext h6 (h6.new (.cells Fr.zero.cells 136)):=Aw.new _ _;have u:(h6.new (.cells Fr.zero.cells 136)).get h6.next=some (.cells Fr.zero.cells 136):=Ad _ _
  have n7:(h6.new (.cells Fr.zero.cells 136)).next=h6.next+1:=rfl
  have g4:=x7.at bn g4;have a2:=x7.hb bn;have d1:=d1.ext bn x7;have cG:=x6.trans x7;have hF:Rr<h6.next:=by have:=c6.next;omega
  generalize h6.new (.cells Fr.zero.cells 136)=h7 at x7 u n7 g4 a2 d1 cG⊢;generalize h6.next=C at u n7 hF⊢
  refine Ok.st (⟨Lx (p.take 1),0,0,0,0,List.replicate 44 0⟩:Fr).cells u rfl (by kernel_rfl) (Bl (by kernel_rfl)) ?_;have lF:=a2 _ _ u;have u:(h7.put C (.cells (⟨Lx (p.take 1),0,0,0,0,List.replicate 44 0⟩:Fr).cells 136)).get C=some (.cells (⟨Lx (p.take 1),0,0,0,0,List.replicate 44 0⟩:Fr).cells 136):=Af _ _ _;have g4:(h7.put C (.cells (⟨Lx (p.take 1),0,0,0,0,List.replicate 44 0⟩:Fr).cells 136)).get (h.next+2)=some (.cells Fr.zero.cells 136):=by rw[Ae _];exact g4
  have d1:Rd (h7.put C (.cells (⟨Lx (p.take 1),0,0,0,0,List.replicate 44 0⟩:Fr).cells 136)) Rr q (0+1) (p.drop 1):=by
   have c:Aw (fun i=>i=C) h7 (h7.put C (.cells (⟨Lx (p.take 1),0,0,0,0,List.replicate 44 0⟩:Fr).cells 136)):=(Aw.refl (S:=fun i=>i=C) h7).Ao (.inl rfl) lF _;exact d1.chg a2 c (by have:=d1.ne;intro y;omega) (by intro y;omega)
  have x8:Ext h (h7.put C (.cells (⟨Lx (p.take 1),0,0,0,0,List.replicate 44 0⟩:Fr).cells 136)):=cG.Ao (.inr a_) lF _;have a5:=a2.put lF (.cells (⟨Lx (p.take 1),0,0,0,0,List.replicate 44 0⟩:Fr).cells 136);generalize h7.put C (.cells (⟨Lx (p.take 1),0,0,0,0,List.replicate 44 0⟩:Fr).cells 136)=h8 at u g4 d1 x8 a5⊢;refine(Lk (K:=K) (w:=1) d1 a5 a_ c_ c_ (by simp only[aU];omega) (fun b hb=>U b (by revert hb;exact fun y=>aG y))).Al ?_;rintro _ h9 ⟨rfl,d2,c9,bo⟩;have g4:=Hb c9 a5 g4 a_;have u:=Hb c9 a5 u a_;have x9:=up x8 c9;refine(Lk (K:=K) (w:=2) d2 bo a_ c_ c_ (by simp only[aU];omega) (fun b hb=>U b (aG (aG hb)))).Al ?_;rintro _ fe ⟨rfl,d3,bp,aj⟩;have g4:=Hb bp bo g4 a_;have u:=Hb bp bo u a_;have ea:=up x9 bp;refine(Lk (K:=K) (w:=2) d3 aj a_ c_ c_ (by simp only[aU];omega) (fun b hb=>U b (aG (aG (aG hb))))).Al ?_;rintro _ ff ⟨rfl,d4,bt,al⟩;have g4:=Hb bt aj g4 a_;have u:=Hb bt aj u a_;have eb:=up ea bt;refine(Lk (K:=K) (w:=4) d4 al a_ c_ c_ (by simp only[aU];omega) (fun b hb=>U b (aG (aG (aG (aG hb)))))).Al ?_;rintro _ fg ⟨rfl,d5,bu,ao⟩;have g4:=Hb bu al g4 a_;have u:=Hb bu al u a_;have ec:=up eb bu;refine(Lk (K:=K) (w:=6) d5 ao a_ c_ c_ (by simp only[aU];omega) (fun b hb=>U b (aG (aG (aG (aG (aG hb))))))).Al ?_;rintro _ fh ⟨rfl,d6,bw,aq⟩;have g4:=Hb bw ao g4 a_;have u:=Hb bw ao u a_;have c0:=up ec bw;have au:∀{W hc:Ab},Ext h W->Aw (fun i=>i=C) W hc->Ext h hc:=fun x c=>x.then c fun j hj dB=>by
   have hj:j=C:=hj;omega
  have E:∀{W hc:Ab} {i:Nat} {o:Ds},Aw (fun i=>i=C) W hc->HB W->W.get i=some o->i≠C->hc.get i=some o:=fun c hb g hi=>c.at hb g hi
  have J:∀{W hc:Ab} {off:Nat} {l:List Nat},Aw (fun i=>i=C) W hc->HB W->Rd W Rr q off l->Rd hc Rr q off l:=fun c hb d=>d.chg hb c (by have:=d.ne;intro y;omega) (by intro y;omega)
  have hz:(⟨Lx (p.take 1),0,0,0,0,List.replicate 44 0⟩:Fr).cells.length=49:=by kernel_rfl
  refine Ok.kG u aq rfl rfl (by rw[hz];decide) ?_;intro fi u bx aw;have g4:=E bx aq g4 a_;have d6:=J bx aq d6;have ed:=au c0 bx
  try simp only[Aa]
  refine Ok.kG u aw rfl rfl (by rw[bY,hz];decide) ?_;intro fj u bz ax;have g4:=E bz aw g4 a_;have d6:=J bz aw d6;have c5:=au ed bz
  try simp only[Aa]
  refine Ok.kG u ax rfl rfl (by rw[bY,bY,hz];decide) ?_;intro fk u b5 ay;have g4:=E b5 ax g4 a_;have d6:=J b5 ax d6;have ee:=au c5 b5
  try simp only[Aa]
  refine Ok.kG u ay rfl rfl (by rw[bY,bY,bY,hz];decide) ?_;intro c7 u b6 ab;have g4:=E b6 ay g4 a_;have d6:=J b6 ay d6;have c8:=au ee b6
  try simp only[Aa]
  have u:c7.get C=some (.cells ([Nk .i64 (Lx (p.take 1)),Nk .i64 (Lx (((p.drop 1).drop 1).take 2)),Nk .i64 (Lx ((((p.drop 1).drop 1).drop 2).take 2)),Nk .i64 (Lx (((((p.drop 1).drop 1).drop 2).drop 2).take 4)),Nk .i64 (Lx ((((((p.drop 1).drop 1).drop 2).drop 2).drop 4).take 6))]++Bh (List.replicate 44 0)) 136):=u;rw[show ∀k:EV->R,Oa 44 1 (.ptr C 5) none none none k=k (.slice C 5 44 44 false)from fun k=>rfl];have B:((((((p.drop 1).drop 1).drop 2).drop 2).drop 4).drop 6).length=44:=by simp only[aU];omega
  have dl:Rd c7.lift Rr q (0+1+1+2+2+4+6) ((((((p.drop 1).drop 1).drop 2).drop 2).drop 4).drop 6):=d6.chg ab (S:=fun _=>False) ⟨fun i _ _=>Bv _ _,aD _,fun w _ w2 _=>w2,fun y=>Cz y⟩ id id;refine Ok.bC (S:=fun i=>i=Rr) (UF (K:=K) (n:=44) dl (Cz ab) c_) (fun _ _ p=>p.2.2.1) ?_;rintro b8 eF X s' ⟨ag,d7,_,ca⟩ ad cb cc;have ae:=ad.hb ca;have ag:Bs X b8 q (0+1+1+2+2+4+6) (((((((p.drop 1).drop 1).drop 2).drop 2).drop 4).drop 6).take 44):=ag.frame (ad.get _);have d7:Rd X Rr q (0+1+1+2+2+4+6+44) (((((((p.drop 1).drop 1).drop 2).drop 2).drop 4).drop 6).drop 44):=by
   obtain⟨s0,g,e,f⟩:=d7.Ly;exact⟨⟨s0,by rw[ad.get];exact g,e,fun y=>⟨(f y).1,(f y).2.frame (ad.get _)⟩⟩,d7.ne⟩
  have g4:=Hb cb ab g4 a_;have u:=Hb cb ab u a_;have ef:=up c8 cb;generalize fp:(((((p.drop 1).drop 1).drop 2).drop 2).drop 4).drop 6=body at ag d7 B fin L⊢;generalize hq:Lx ((p.drop 1).take 1)=a6 at fin⊢;generalize Lx (p.take 1)=na at u fin L⊢;generalize Lx (((p.drop 1).drop 1).take 2)=nz at u fin L⊢;generalize Lx ((((p.drop 1).drop 1).drop 2).take 2)=no at u fin L⊢;generalize Lx (((((p.drop 1).drop 1).drop 2).drop 2).take 4)=ne at u fin L⊢;generalize Lx ((((((p.drop 1).drop 1).drop 2).drop 2).drop 4).take 6)=ns at u fin L⊢;have eg:body.take 44=body:=bK a_;rw[eg]at ag fin L⊢;have ei:body.drop 44 = []:=List.drop_eq_nil_of_le a_;rw[ei]at d7;have hlen:lenOf b8=some 44:=by have:=ag.len;rw[B]at this;exact this
  have da:Pw X.lift 1 44 b8=some (Bh body):=by have:=ag.lift.cells;rw[B]at this;exact this
  have ej:=zo (h:=X.lift) (i:=C) (n:=44) (r:=44) (op:=false) (t:=136) (hd:=[Nk .i64 na,Nk .i64 nz,Nk .i64 no,Nk .i64 ne,Nk .i64 ns]) (Cn:=Bh (List.replicate 44 0)) (by rw[Bv];exact u) hlen c_ da (by rw[Bf,B]) (by rw[Bf,bW]);have db:=ae _ _ u;refine Ok.qI (S:=fun i=>i=C) (by rcases cc with rfl|⟨w,rfl,_⟩<;>kernel_rfl) (by rcases cc with rfl|⟨w,rfl,_⟩<;>kernel_rfl) (fun w=>by rcases cc with rfl|⟨w,rfl,_⟩<;>kernel_rfl) (P:=fun v h'=>h'=X.lift.put C (.cells ([Nk .i64 na,Nk .i64 nz,Nk .i64 no,Nk .i64 ne,Nk .i64 ns]++Bh body) 136)) ⟨_,_,ej,rfl⟩ (fun _ _ p=>by rw[p];exact(Aw.refl (S:=fun i=>i=C) X.lift).Ao (.inl rfl) (show C<X.lift.next from db) _) ?_;rintro fq eG cf s2 rfl dc a7 _;have T:=a7.hb ae;have u:cf.get C=some (.cells ([Nk .i64 na,Nk .i64 nz,Nk .i64 no,Nk .i64 ne,Nk .i64 ns]++Bh body) 136):=by rw[dc.get];exact Af _ _ _
  have g4:=E a7 ae g4 a_;have d7:=J a7 ae d7;have de:=au ef a7;simp only[Ac];have cl:([Nk .i64 na,Nk .i64 nz,Nk .i64 no,Nk .i64 ne,Nk .i64 ns]++Bh body).length=49:=by rw[aE,Bf,B];rfl
  have bad:∀Y:Ab,Ext cf Y->¬(a6=1/\hQ ⟨na,nz,no,ne,ns,body⟩=true)->∀w:EV,Ok (Vr K (.ptr (h.next+2) 0) (.ptr C 0) (.bool true) w Y) _:=fun Y O en w=>by
   simp only[Vr,Aa];rw[Ax (l:=Fr.zero.cells) rfl];exact fin Fr.zero 10 Y _ (fun _=>rfl) (O.hb T) (de.trans O) (O.at T g4) Fr.G7 (by rw[aK en])
  by_cases hv:a6=1
  ·rw[show decide (¬Int.ofNat a6=1)=false from aS (by rw[hv];exact fun y=>y rfl)]
   simp only[Aa];rw[Cv u rfl,Ai cl];simp only[G6];refine(zm (K:=K) ⟨na,nz,no,ne,ns,body⟩).Al ?_;rintro _ Y ⟨rfl,O⟩;generalize hQ ⟨na,nz,no,ne,ns,body⟩=fb at fin bad⊢;cases fb with
   | false=>
    simp only[Aa,Vm,Ac];exact bad Y O (by simp) _
   | true=>
    have df:=O.hb T;simp only[Aa,Vm,Ac,Bp1 (d7.ext T O),I];simp only[Vr,Aa,aC,aA,MG];rw[Cv (O.at T u) rfl,Ai cl];simp only[G6];have r:=fin ⟨na,nz,no,ne,ns,body⟩ 0 Y (fun z=>Gi TT [RV.c (EV.ptr (h.next+2) 0) 136,RV.v (EV.int IntKind.i64 0)] z) (fun _=>rfl) df (de.trans O) (O.at T g4) L (by rw[aN ⟨hv,rfl⟩]);simp only[eq_self]at r;exact r
  ·rw[show decide (¬Int.ofNat a6=1)=true from aQ fun y=>hv (Int.ofNat.inj y)]
   simp only[Aa,Vm,Ac];exact bad cf (Aw.refl _) (fun y=>hv y.1) _
def hM(s:List Nat)(Am off:Int):Fr × Int:=
 if ¬(Yn s).2=0 then(Fr.zero,(Yn s).2)else if ¬(Yn s).1.Am=Am\/¬(Yn s).1.off=off then(Fr.zero,12)else((Yn s).1,0)
theorem SQ{s:List Nat}(hl:s.length=64)(hu:∀b∈s,b<256)(hb:HB h)(hK:10000<K)(Am off:Int):
 Ok (rE K U1 (.agg (Bh s)) (I Am) (I off) h) fun v h'=>v=.tuple [.agg (hM s Am off).1.cells,I (hM s Am off).2]/\(hM s Am off).1.Wf/\Ext h h':=by
 unfold U1;simp only[rE,Aa];rw[Fr.Ii];have x1:Ext h (((h.new (.cells Bc 73)).new (.cells (Bh s) 32)).new (.cells Fr.zero.cells 136)):=((Aw.new _ _).Da _).Da _;have g2:(((h.new (.cells Bc 73)).new (.cells (Bh s) 32)).new (.cells Fr.zero.cells 136)).get h.next=some (.cells Bc 73):=by
  rw[Az _ (by show h.next<h.next+1+1;omega),Az _ (aO _)];exact Ad _ _
 have g3:(((h.new (.cells Bc 73)).new (.cells (Bh s) 32)).new (.cells Fr.zero.cells 136)).get (h.next+1)=some (.cells (Bh s) 32):=by
  rw[Az _ (by show h.next+1<h.next+1+1;omega)];exact Ad _ _
 have g4:(((h.new (.cells Bc 73)).new (.cells (Bh s) 32)).new (.cells Fr.zero.cells 136)).get (h.next+2)=some (.cells Fr.zero.cells 136):=Ad _ _;have n1:(((h.new (.cells Bc 73)).new (.cells (Bh s) 32)).new (.cells Fr.zero.cells 136)).next=h.next+3:=rfl
 rw[show(h.new (.cells Bc 73)).next=h.next+1 from rfl,show((h.new (.cells Bc 73)).new (.cells (Bh s) 32)).next=h.next+2 from rfl];generalize ((h.new (.cells Bc 73)).new (.cells (Bh s) 32)).new (.cells Fr.zero.cells 136)=h1 at x1 g2 g3 g4 n1⊢;have B:=x1.hb hb;have zl:=Fr.Ay Fr.G7;have C:=Bpg hl hu;have fin:∀(f:Fr) (e:Int) (J:Ab) (kk:Ab->R),(∀h',kk h'=Gi TT [.c (.ptr (h.next+2) 0) 136,.v (I e)] h')->HB J->Ext h J->J.get (h.next+2)=some (.cells Fr.zero.cells 136)->f.Wf->(f,e)=hM s Am off ->
  Ok (Vz 49 (.ptr (h.next+2) 0) (.agg f.cells) J kk) fun v h'=>v=.tuple [.agg (hM s Am off).1.cells,I (hM s Am off).2]/\(hM s Am off).1.Wf/\Ext h h':=by
  intro f e J kk ad ae x5 g5 wf he;have fl:=Fr.Ay wf;refine Ok.st f.cells g5 rfl (by show Fw f.cells=49;rw[Be,fl]) (Bl (by rw[zl];exact fl.symm)) ?_;have g6:(J.put (h.next+2) (.cells f.cells 136)).get (h.next+2)=some (.cells f.cells 136):=Af _ _ _;rw[ad,Du g6 qp.1 qp.2 fl,<-he];exact .ret ⟨rfl,wf,x5.Ao (.inr a_) (ae _ _ g5) _⟩
 have u64:(Bh s).length=64:=by rw[Bf,hl]
 rw[Cv g2 rfl,Ai Qo];simp only[G6];rw[Cv g3 rfl,Ai u64];simp only[G6];refine(Ay3 (K:=K) hl hu B hK).Al ?_;rintro _ h2 ⟨rfl,W⟩;have L:=W.hb B;have g4:=W.at B g4;have af:=x1.trans W;simp only[Aa];have X:Ext h2 (h2.new (.cells Fr.zero.cells 136)):=Aw.new _ _;have u:(h2.new (.cells Fr.zero.cells 136)).get h2.next=some (.cells Fr.zero.cells 136):=Ad _ _
 have g4:=X.at L g4;have E:=X.hb L;have O:=af.trans X;have n2:h.next+3<=h2.next:=by have:=W.next;omega
 generalize h2.new (.cells Fr.zero.cells 136)=Y at X u g4 E O⊢;generalize h2.next=T at u n2⊢
 have dl:=Fr.Ay C;refine Ok.st (Yn s).1.cells u rfl (by show Fw (Yn s).1.cells=49;rw[Be,dl]) (Bl (by rw[zl];exact dl.symm)) ?_;have lF:=E _ _ u;have u:(Y.put T (.cells (Yn s).1.cells 136)).get T=some (.cells (Yn s).1.cells 136):=Af _ _ _;have g4:(Y.put T (.cells (Yn s).1.cells 136)).get (h.next+2)=some (.cells Fr.zero.cells 136):=by rw[Ae _];exact g4
 have U:Ext h (Y.put T (.cells (Yn s).1.cells 136)):=O.Ao (.inr a_) lF _;have o:=E.put lF (.cells (Yn s).1.cells 136);have e0:EV.cells (EV.agg (Yn s).1.cells)=(Yn s).1.cells:=rfl;generalize Y.put T (.cells (Yn s).1.cells 136)=h4 at u g4 U o⊢;unfold hM at fin⊢;generalize (Yn s).2=e at fin⊢;generalize (Yn s).1=f at fin C dl u⊢;simp only[I,Ac];by_cases he:e=0
 ·subst he
  simp only[aC,aA,Aa,MP,Cy u rfl,ak]at fin⊢;have l1:f.cells[1]? = some (I f.Am):=rfl;have l2:f.cells[2]? = some (I f.off):=rfl;rw[l1];simp only[G6,I,Ac];by_cases hz:f.Am=Am
  ·simp only[hz,aC,aA,Aa,Cy u rfl,false_or]at fin⊢
   rw[l2];simp only[G6,I,Ac];by_cases ho:f.off=off
   ·simp only[ho,aC,aA,Aa,tV,ak,MO]at fin⊢
    rw[Cv u rfl,Ai dl];exact fin f 0 h4 _ (fun _=>rfl) o U g4 C rfl
   ·simp only[ho,aH,aB,Aa,tV,bM]at fin⊢
    rw[Ax (l:=Fr.zero.cells) rfl];exact fin Fr.zero 12 h4 _ (fun _=>rfl) o U g4 Fr.G7 rfl
  ·simp only[hz,aH,aB,Aa,true_or,bM,tV]at fin⊢
   rw[Ax (l:=Fr.zero.cells) rfl];exact fin Fr.zero 12 h4 _ (fun _=>rfl) o U g4 Fr.G7 rfl
 ·simp only[he,aH,aB,Aa,bM]at fin⊢
  rw[Ax (l:=Fr.zero.cells) rfl];exact fin Fr.zero e h4 _ (fun _=>rfl) o U g4 Fr.G7 rfl
structure En where
 kind:Int
 first:Int
 count:Int
 block:Int
 many:Int
 Bw:Int
 bytes:List Nat
def En.cells(e:En):List EV:=[I e.kind,I e.first,I e.count,I e.block,I e.many,I e.Bw]++Bh e.bytes
structure En.Wf(e:En):Prop where
 len:e.bytes.length=32
 u8:∀b∈e.bytes,b<256
theorem En.Ay {e:En}(w:e.Wf):e.cells.length=38:=by
 unfold En.cells;rw[aE,Bf,w.len];rfl
theorem Bmq(a b:Nat):jC (Nk .u8 a) (Nk .u8 b)=some (decide (a=b)):=by
 show Bb (Nat.beq (Pv .u8) (Pv .u8)) (some (iE (Int.ofNat a) (Int.ofNat b))) none=_;rw[cP,Aj,lr];exact congrArg some (fT.2 ⟨Int.ofNat.inj,congrArg _⟩)
theorem zp:∀(a b:List Nat),a.length=b.length->Ey (Bh a) (Bh b)=some (decide (a=b))
 | [],[],_=>rfl
 | x::a,y::b,h=>by
  have ih:=zp a b (by simpa using h);show(match jC (Nk .u8 x) (Nk .u8 y)with|some true=>Ey (Bh a) (Bh b)|some false=>(match Ey (Bh a) (Bh b)with|some _=>some false|none=>none)|none=>none)=_;rw[Bmq,ih];by_cases o:x=y
  ·rw[aQ o]
   subst o;simp
  ·rw[aS o]
   simp[o]
theorem zr:∀(a:List Nat),shaped (List.replicate a.length 0) (Bh a)=true
 | []=>rfl
 | x::a=>by
  show Bb (Nat.beq 0 0) (shaped (List.replicate a.length 0) (Bh a)) false=true;rw[zr a];rfl
theorem Bhh(o:TT.eqs t=some (List.replicate n 0)){a b:List Nat}(u:a.length=n)(hb:b.length=n)(k:EV->R):Jk iD (bin TT .eql t) (.agg (Bh a)) (.agg (Bh b)) k=k (.bool (decide (a=b))):=by
 have e:bin TT .eql t (.agg (Bh a)) (.agg (Bh b))=some (.bool (decide (a=b))):=by
  show(match jq TT t (.agg (Bh a)) (.agg (Bh b))with|some b=>some (EV.bool b)|none=>none)=_;have:jq TT t (.agg (Bh a)) (.agg (Bh b))=some (decide (a=b)):=by
   show(match TT.eqs t with|some sh=>Bb (shaped sh (Bh a)) (Ey (Bh a) (Bh b)) none|none=>none)=_;rw[o];simp only;rw[show List.replicate n 0=List.replicate a.length 0 by rw[u],zr,Aj,zp a b a_]
  rw[this]
 show oB k (bin TT .eql t (.agg (Bh a)) (.agg (Bh b)))=_;rw[e];rfl
theorem Bhb(o:TT.eqs t=some (List.replicate n 0)){a b:List Nat}(u:a.length=n)(hb:b.length=n)(k:EV->R):Jk iF (bin TT .neq t) (.agg (Bh a)) (.agg (Bh b)) k=k (.bool (decide (¬a=b))):=by
 have e:bin TT .neq t (.agg (Bh a)) (.agg (Bh b))=some (.bool (decide (¬a=b))):=by
  show(match jq TT t (.agg (Bh a)) (.agg (Bh b))with|some b=>some (EV.bool (Bb b false true))|none=>none)=_;have:jq TT t (.agg (Bh a)) (.agg (Bh b))=some (decide (a=b)):=by
   show(match TT.eqs t with|some sh=>Bb (shaped sh (Bh a)) (Ey (Bh a) (Bh b)) none|none=>none)=_;rw[o];simp only;rw[show List.replicate n 0=List.replicate a.length 0 by rw[u],zr,Aj,zp a b a_]
  rw[this];by_cases h:a=b
  ·simp[h,Bb]
  ·simp[h,Bb]
 show oB k (bin TT .neq t (.agg (Bh a)) (.agg (Bh b)))=_;rw[e];rfl
theorem Bsp:TT.eqs 81=some (List.replicate 32 0):=by kernel_rfl
theorem Br3:TT.eqs 134=some (List.replicate 44 0):=by kernel_rfl
theorem Q5(n a b:Int)(h:Ab):Qs K (.int .i64 n) (.int .i64 a) (.int .i64 b) h=some (.bool (wi n a b),h):=by
 simp only[Qs,Ac,Aa];by_cases o:a<=n
 ·simp only[o,aB,Aa,Ac,xn,wi,bF]
 ·simp only[o,aA,Aa,xn,wi,bB]
def D8:List Nat:=List.replicate 32 0
def vI(e:En):Bool:=
 if e.kind=1 then wi e.count 1 4&&decide (e.many=0)else
 if e.kind=2 then(decide (e.count=1)&&wi e.many 1 (256-e.block))&&decide (e.bytes=D8)else
 if e.kind=3 then decide (e.count=1)&&decide (e.many=0)else false
theorem Gq:List.replicate 32 (EV.int .u8 0)=Bh D8:=by kernel_rfl
theorem Azc{e:En}(w:e.Wf)(B:wi e.block 0 255=true):Ok (Qw K (.agg e.cells) h) fun v h'=>v=.bool (vI e)/\Ext h h':=by
 obtain⟨b0,b1⟩:=J8.1 B;simp only[Qw,Aa];obtain⟨X,T,o,u,_⟩:=nW h (.cells e.cells 151);rw[T];have l0:e.cells[0]? = some (I e.kind):=rfl;have C:e.cells[2]? = some (I e.count):=rfl;have U:e.cells[3]? = some (I e.block):=rfl;have E:e.cells[4]? = some (I e.many):=rfl;have W:Ke e.cells 6 32=some (Bh e.bytes):=by
  rw[E4 (by rw[En.Ay w];decide)];show some (List.take 32 (Bh e.bytes))=_;rw[bK (by rw[Bf,w.len];decide)]
 simp only[Cy u rfl,Aa,l0,I,Ac];unfold vI;by_cases J:e.kind=1
 ·simp only[J,aB,Aa,Cy u rfl,C,I,Q5,Ac,bM]
  cases wi e.count 1 4 with
  | false=>simp only[Aa,Rn,Ac];exact .ret ⟨rfl,o⟩
  | true=>
   simp only[Aa,Cy u rfl,E,I,Ac,Rn,bF];exact .ret ⟨rfl,o⟩
 ·simp only[J,aA,Aa,ak,Ac]
  by_cases L:e.kind=2
  ·simp only[L,aB,Aa,Cy u rfl,C,I,Ac,bM]
   by_cases c1:e.count=1
   ·simp only[c1,aB,Aa,Cy u rfl,E,U,I,Ac,bF]
    rw[Ci,Q5];simp only[Aa,Rk];cases wi e.many 1 (256-e.block)with
    | false=>simp only[Aa,My,Ac,bB];exact .ret ⟨rfl,o⟩
    | true=>
     simp only[Aa,Ac,Cv u rfl,W];rw[Ax (l:=Bh D8) (by rw[Gq];rfl),Bhh Bsp w.len (by rfl)];simp only[My,Aa,bF];exact .ret ⟨rfl,o⟩
   ·simp only[c1,aA,Aa,Ac,Rk,My,bB]
    exact .ret ⟨rfl,o⟩
  ·simp only[L,aA,Aa,ak,Ac]
   by_cases O:e.kind=3
   ·simp only[O,aB,Aa,Cy u rfl,C,I,Ac,bM]
    by_cases c1:e.count=1
    ·simp only[c1,aB,Aa,Cy u rfl,E,I,Ac,Rq,bF]
     exact .ret ⟨rfl,o⟩
    ·simp only[c1,aA,Aa,Ac,Rq,bB]
     exact .ret ⟨rfl,o⟩
   ·simp only[O,aA,Aa,ak,Zo]
    exact .ret ⟨rfl,o⟩
def jN(e:En):Bool:=wi e.first 0 281474976710655&&(wi e.block 0 255&&(wi e.Bw 0 65535&&vI e))
theorem Azq{e:En}(w:e.Wf):Ok (Ry K (.agg e.cells) h) fun v h'=>v=.bool (jN e)/\Ext h h':=by
 simp only[Ry,Aa];obtain⟨O,C,o,u,_⟩:=nW h (.cells e.cells 151);rw[C];have l1:e.cells[1]? = some (I e.first):=rfl;have E:e.cells[3]? = some (I e.block):=rfl;have J:e.cells[5]? = some (I e.Bw):=rfl;simp only[Cy u rfl,Aa,l1,I,Q5,Ac];unfold jN;cases wi e.first 0 281474976710655 with
 | false=>simp only[Aa,Ac,Td,N7,J4];exact .ret ⟨rfl,o⟩
 | true=>
 simp only[Aa,Ac,Cy u rfl,E,I,Q5,Td,bF];cases B:wi e.block 0 255 with
 | false=>simp only[Aa,Ac,N7,J4];exact .ret ⟨rfl,o⟩
 | true=>
 simp only[Aa,Ac,Cy u rfl,J,I,Q5,N7,bF];cases wi e.Bw 0 65535 with
 | false=>simp only[Aa,Ac,J4];exact .ret ⟨rfl,o⟩
 | true=>
 simp only[Aa,Ac,bF];rw[Cv u rfl,Ai (En.Ay w)];simp only[G6];refine(Azc (K:=K) w B).Al ?_;rintro _ h2 ⟨rfl,L⟩;simp only[J4,Aa];exact .ret ⟨rfl,o.trans L⟩
variable {e:En}
def Yg(e:En):List Nat:=N1 6 e.first.toNat++N1 1 e.count.toNat++N1 1 e.block.toNat++N1 2 e.many.toNat++N1 2 e.Bw.toNat++e.bytes
def Vy:List Nat:=List.replicate 44 0
theorem zt:List.replicate 44 (EV.int .u8 0)=Bh Vy:=by kernel_rfl
def Ea(e:En):List Nat × Int:=if jN e=true then(Yg e,0)else(Vy,10)
theorem UI(w:e.Wf):(Yg e).length=44:=by
 unfold Yg;simp only[aE,C9,w.len]
theorem Bmb(w:e.Wf):∀b∈Yg e,b<256:=fun b hb=>by
 unfold Yg at hb;simp only[bO]at hb;rcases hb with((((hb|hb)|hb)|hb)|hb)|hb
 ·exact Jr _ _ b hb
 ·exact Jr _ _ b hb
 ·exact Jr _ _ b hb
 ·exact Jr _ _ b hb
 ·exact Jr _ _ b hb
 ·exact w.u8 b hb
theorem sN(w:e.Wf):(Ea e).1.length=44:=by
 unfold Ea;split
 ·exact UI w
 ·rfl
theorem UJ(w:e.Wf):∀b∈(Ea e).1,b<256:=by
 unfold Ea;split
 ·exact Bmb w
 ·intro b hb;rw[cC hb];decide
theorem pe:TT.size 134=some 44/\TT.agg 134=some true:=⟨by kernel_rfl,by kernel_rfl⟩
theorem zu(u:jN e=true):(0<=e.first/\e.first<=281474976710655)/\(0<=e.block/\e.block<=255)/\(0<=e.Bw/\e.Bw<=65535)/\(1<=e.count/\e.count<=4)/\(0<=e.many/\e.many<=256)/\(1<=e.kind/\e.kind<=3):=by
 unfold jN at u;simp only[bD]at u;obtain⟨B,C,E,o⟩:=u;have a:=J8.1 B;have b:=J8.1 C;have c:=J8.1 E;refine⟨a,b,c,?_⟩;unfold vI at o;split at o
 ·simp only[bD,av]at o
  have:=J8.1 o.1;omega
 ·split at o
  ·simp only[bD,av]at o
   have:=J8.1 o.1.2;omega
  ·split at o
   ·simp only[bD,av]at o
    omega
   ·cases o
theorem UK(w:e.Wf)(hb:HB h)(hK:10000<K):
 Ok (Pn K (.agg e.cells) h) fun v h'=>v=.tuple [.agg (Bh (Ea e).1),I (Ea e).2]/\Ext h h':=by
 have l1:e.cells[1]? = some (I e.first):=rfl;have l2:e.cells[2]? = some (I e.count):=rfl;have l3:e.cells[3]? = some (I e.block):=rfl;have l4:e.cells[4]? = some (I e.many):=rfl;have l5:e.cells[5]? = some (I e.Bw):=rfl;have al:=En.Ay w;simp only[Pn,Aa];rw[zt];have x1:Ext h (((h.new (.cells e.cells 151)).new (.cells (Bh Vy) 134)).new (.cells (Bh Vy) 134)):=((Aw.new _ _).Da _).Da _;have B:(((h.new (.cells e.cells 151)).new (.cells (Bh Vy) 134)).new (.cells (Bh Vy) 134)).get h.next=some (.cells e.cells 151):=by
  rw[Az _ (by show h.next<h.next+1+1;omega),Az _ (aO _)];exact Ad _ _
 have u:(((h.new (.cells e.cells 151)).new (.cells (Bh Vy) 134)).new (.cells (Bh Vy) 134)).get (h.next+1)=some (.cells (Bh Vy) 134):=by
  rw[Az _ (by show h.next+1<h.next+1+1;omega)];exact Ad _ _
 have g4:(((h.new (.cells e.cells 151)).new (.cells (Bh Vy) 134)).new (.cells (Bh Vy) 134)).get (h.next+2)=some (.cells (Bh Vy) 134):=Ad _ _;have n1:(((h.new (.cells e.cells 151)).new (.cells (Bh Vy) 134)).new (.cells (Bh Vy) 134)).next=h.next+3:=rfl
 rw[show(h.new (.cells e.cells 151)).next=h.next+1 from rfl,show((h.new (.cells e.cells 151)).new (.cells (Bh Vy) 134)).next=h.next+2 from rfl];generalize ((h.new (.cells e.cells 151)).new (.cells (Bh Vy) 134)).new (.cells (Bh Vy) 134)=h1 at x1 B u g4 n1⊢;have W:=x1.hb hb;have zl:(Bh Vy).length=44:=by rw[Bf];rfl
 have fin:∀(l:List Nat) (er:Int) (h5:Ab) (kk:Ab->R),(∀h',kk h'=Gi TT [.c (.ptr (h.next+1) 0) 134,.v (I er)] h')->HB h5->Ext h h5->h5.get (h.next+1)=some (.cells (Bh Vy) 134)->l.length=44->(l,er)=Ea e ->
  Ok (Vz 44 (.ptr (h.next+1) 0) (.agg (Bh l)) h5 kk) fun v h'=>v=.tuple [.agg (Bh (Ea e).1),I (Ea e).2]/\Ext h h':=by
  intro l er h5 kk ba E x5 g5 hl he;have fl:(Bh l).length=44:=by rw[Bf,hl]
  refine Ok.st (Bh l) g5 rfl (by show Fw (Bh l)=44;rw[Be,fl]) (Bl (by rw[zl];exact fl.symm)) ?_;have g6:(h5.put (h.next+1) (.cells (Bh l) 134)).get (h.next+1)=some (.cells (Bh l) 134):=Af _ _ _;rw[ba,Du g6 pe.1 pe.2 fl,<-he];exact .ret ⟨rfl,x5.Ao (.inr a_) (E _ _ g5) _⟩
 rw[Cv B rfl,Ai al];simp only[G6];refine(Azq (K:=K) w).Al ?_;rintro _ h2 ⟨rfl,x2⟩;have L:=x2.hb W;have ao:=x1.trans x2;have B:=x2.at W B;have u:=x2.at W u;have g4:=x2.at W g4;have n2:h.next+3<=h2.next:=by have:=x2.next;omega
 unfold Ea at fin⊢;cases hr:jN e with
 | false=>
  rw[hr]at fin;simp only[Aa,aT,ak]at fin⊢;rw[Cv g4 rfl,Ai zl];simp only[G6];exact fin Vy 10 h2 _ (fun _=>rfl) L ao u rfl rfl
 | true=>
 rw[hr]at fin;simp only[Aa,bM,MB]at fin⊢;obtain⟨⟨a1,b1⟩,⟨a2,b2⟩,⟨a3,b3⟩,⟨a4,b4⟩,⟨a5,b5⟩,_⟩:=zu hr;have p0:lJ (h2.new (.cells [.An,.bool false] 222)) h2.next 222 [] false:=⟨.An,0,Ad _ _,.nil _ _ _ _,fun y=>absurd y (bU _)⟩
 have x3:Ext h2 (h2.new (.cells [.An,.bool false] 222)):=Aw.new _ _;have B:=x3.at L B;have u:=x3.at L u;have g4:=x3.at L g4;have O:=x3.hb L;have aq:=ao.trans x3;generalize h2.new (.cells [.An,.bool false] 222)=h3 at p0 x3 B u g4 O aq⊢;generalize hP:h2.next=P at p0 n2⊢
 have up:∀{ha hc:Ab},Ext h ha->Aw (fun i=>P<=i) ha hc->Ext h hc:=fun x c=>x.then c fun j hj hl=>by
  have hj:P<=j:=hj;omega
 have C:∀{ha hc:Ab} {i:Nat} {o:Ds},Aw (fun i=>P<=i) ha hc->HB ha->ha.get i=some o->i<P->hc.get i=some o:=fun c hb g hi=>c.at hb g a_
 rw[Cy B rfl,l1];simp only[G6];refine(Ml (K:=K) (w:=6) a_ p0 O (by simp) c_ c_ (v:=e.first)).Al ?_;rintro _ h5 ⟨p,c,E⟩;rw[Y9 (b:=281474976710655) a1 b1 c_,aN rfl]at p;have x5:=up aq c;have B:=C c O B a_;have u:=C c O u a_;have g4:=C c O g4 a_;rw[Cy B rfl,l2];simp only[G6];refine(Ml (K:=K) (w:=1) a_ p E (by simp[C9]) c_ c_ (v:=e.count)).Al ?_;rintro _ h6 ⟨p,c,X⟩;rw[Y9 (b:=4) a_ b4 c_,aN rfl]at p;have x6:=up x5 c;have B:=C c E B a_;have u:=C c E u a_;have g4:=C c E g4 a_;rw[Cy B rfl,l3];simp only[G6];refine(Ml (K:=K) (w:=1) a_ p X (by simp[C9]) c_ c_ (v:=e.block)).Al ?_;rintro _ h7 ⟨p,c,Y⟩;rw[Y9 (b:=255) a2 b2 c_,aN rfl]at p;have x7:=up x6 c;have B:=C c X B a_;have u:=C c X u a_;have g4:=C c X g4 a_;rw[Cy B rfl,l4];simp only[G6];refine(Ml (K:=K) (w:=2) a_ p Y (by simp[C9]) c_ c_ (v:=e.many)).Al ?_;rintro _ h8 ⟨p,c,aa⟩;rw[Y9 (b:=256) a5 b5 c_,aN rfl]at p;have x8:=up x7 c;have B:=C c Y B a_;have u:=C c Y u a_;have g4:=C c Y g4 a_;rw[Cy B rfl,l5];simp only[G6];refine(Ml (K:=K) (w:=2) a_ p aa (by simp[C9]) c_ c_ (v:=e.Bw)).Al ?_;rintro _ h9 ⟨p,c,af⟩;rw[Y9 (b:=65535) a3 b3 c_,aN rfl]at p;have x9:=up x8 c;have B:=C c aa B a_;have u:=C c aa u a_;have g4:=C c aa g4 a_
 try simp only[Aa]
 rw[show ∀k:EV->R,Oa 32 1 (.ptr h.next 6) none none none k=k (.slice h.next 6 32 32 false)from fun k=>rfl];have bj:Pw h9 1 32 (.slice h.next 6 32 32 false)=some (Bh e.bytes):=by
  show Xk h9 h.next 6 32=_
  unfold Xk mi;rw[B];show Ke e.cells 6 32=_;rw[E4 (by rw[al];decide)];show some (List.take 32 (Bh e.bytes))=_;rw[bK (by rw[Bf,w.len];decide)]
 refine(UB (K:=K) (n:=32) p af (by simp[C9]) rfl c_ c_ bj w.len).Al ?_;rintro _ cA ⟨p,c,T⟩;have bk:=up x9 c;have u:=C c af u a_;have g4:=C c af g4 a_;have ep:([]++N1 6 e.first.toNat++N1 1 e.count.toNat++N1 1 e.block.toNat++N1 2 e.many.toNat++N1 2 e.Bw.toNat++e.bytes)=Yg e:=by
  unfold Yg;rw[cS]
 have aw:∀b:Bool,(b||!true)=b:=c_
 rw[ep]at p;simp only[aw]at p;have J:=UI w;refine(UC (K:=K) p T (by rw[J];decide)).Al ?_;rintro _ ag ⟨y,q',rfl,ry,U,ab,lq⟩;have u:=U.at T u;have g4:=U.at T g4;have ax:=bk.trans U;simp only[Aa];rw[show ∀k:EV->R,Oa 44 1 (.ptr (h.next+2) 0) none none none k=k (.slice (h.next+2) 0 44 44 false)from fun k=>rfl];have ay:=ry.bs (by rw[J];decide);have hlen:=ay.len;have ad:=ay.cells;rw[J]at hlen ad;have az:=zo (h:=ag) (i:=h.next+2) (n:=44) (r:=44) (op:=false) (t:=134) (hd:=[]) (Cn:=Bh Vy) g4 hlen c_ ad (by rw[Bf,J]) zl;rw[show([]:List EV).length=0 from rfl,cS]at az;rw[az,Aq];have a6:=ab _ _ g4;have g4:(ag.put (h.next+2) (.cells (Bh (Yg e)) 134)).get (h.next+2)=some (.cells (Bh (Yg e)) 134):=Af _ _ _;have u:(ag.put (h.next+2) (.cells (Bh (Yg e)) 134)).get (h.next+1)=some (.cells (Bh Vy) 134):=by rw[Ae _];exact u
 rw[Cv g4 rfl,Ai (by rw[Bf,J])];simp only[G6];exact fin (Yg e) 0 _ _ (fun _=>rfl) (ab.put a6 _) (ax.Ao (.inr a_) a6 _) u J rfl
theorem Bbu(a b c d e:Int){l:List EV}(o:l.length=44):iT (Df [(0,1),(1,1),(2,1),(3,1),(4,1),(5,44)]) [(0,I a),(1,I b),(2,I c),(3,I d),(4,I e),(5,.agg l)] Fr.zero.cells=some ([I a,I b,I c,I d,I e]++l):=by
 have hs:=qS [I a,I b,I c,I d,I e] (Bh (List.replicate 44 0)) l (by rw[Bf,bW,o]);rw[<-Vg]at hs;show Bb (Nat.beq (Fw l) 44) (oB (fun z=>some z) (Nl ([I a,I b,I c,I d,I e]++Bh (List.replicate 44 0)) 5 l)) none=_;rw[Be,o,cP,Aj];rw[show(5:Nat) = [I a,I b,I c,I d,I e].length from rfl,hs];rfl
def J3(e:En)(Am off As seq:Int):Fr × Int:=
 if jN e=true/\hQ ⟨e.kind,Am,off,As,seq,(Ea e).1⟩=true/\e.first<=seq/\seq-e.count<e.first then(⟨e.kind,Am,off,As,seq,(Ea e).1⟩,0)else(Fr.zero,10)
theorem UL(w:e.Wf)(Am off As seq:Int):(J3 e Am off As seq).1.Wf:=by
 unfold J3;split
 ·exact⟨sN w,UJ w⟩
 ·exact Fr.G7
theorem zx(w:e.Wf)(hb:HB h)(hK:10000<K)(Am off As seq:Int):
 Ok (Kj K (.agg e.cells) (I Am) (I off) (I As) (I seq) h) fun v h'=>v=.tuple [.agg (J3 e Am off As seq).1.cells,I (J3 e Am off As seq).2]/\Ext h h':=by
 have l0:e.cells[0]? = some (I e.kind):=rfl;have l1:e.cells[1]? = some (I e.first):=rfl;have l2:e.cells[2]? = some (I e.count):=rfl;have ax:=En.Ay w;have zl:=Fr.Ay Fr.G7;have X:(⟨e.kind,Am,off,As,seq,(Ea e).1⟩:Fr).Wf:=⟨sN w,UJ w⟩;have fl:=Fr.Ay X;simp only[Kj,Aa];rw[Fr.Ii];have x1:Ext h ((h.new (.cells e.cells 151)).new (.cells Fr.zero.cells 136)):=(Aw.new _ _).Da _;have u:((h.new (.cells e.cells 151)).new (.cells Fr.zero.cells 136)).get h.next=some (.cells e.cells 151):=by
  rw[Az _ (aO _)];exact Ad _ _
 have o:((h.new (.cells e.cells 151)).new (.cells Fr.zero.cells 136)).get (h.next+1)=some (.cells Fr.zero.cells 136):=Ad _ _;have n1:((h.new (.cells e.cells 151)).new (.cells Fr.zero.cells 136)).next=h.next+2:=rfl
 rw[show(h.new (.cells e.cells 151)).next=h.next+1 from rfl];generalize (h.new (.cells e.cells 151)).new (.cells Fr.zero.cells 136)=h1 at x1 u o n1⊢;have T:=x1.hb hb;have fin:∀(f:Fr) (er:Int) (J:Ab) (kk:Ab->R),(∀h',kk h'=Gi TT [.c (.ptr (h.next+1) 0) 136,.v (I er)] h')->HB J->Ext h J->J.get (h.next+1)=some (.cells Fr.zero.cells 136)->f.Wf->(f,er)=J3 e Am off As seq ->
  Ok (Vz 49 (.ptr (h.next+1) 0) (.agg f.cells) J kk) fun v h'=>v=.tuple [.agg (J3 e Am off As seq).1.cells,I (J3 e Am off As seq).2]/\Ext h h':=by
  intro f er J kk a1 L Y u wf he;have fl:=Fr.Ay wf;refine Ok.st f.cells u rfl (by show Fw f.cells=49;rw[Be,fl]) (Bl (by rw[zl];exact fl.symm)) ?_;have g6:(J.put (h.next+1) (.cells f.cells 136)).get (h.next+1)=some (.cells f.cells 136):=Af _ _ _;rw[a1,Du g6 qp.1 qp.2 fl,<-he];exact .ret ⟨rfl,Y.Ao (.inr a_) (L _ _ u) _⟩
 rw[Cv u rfl,Ai ax];simp only[G6];refine(UK (K:=K) w T hK).Al ?_;rintro _ h2 ⟨rfl,x2⟩;have aa:=x2.hb T;have a2:=x1.trans x2;have u:=x2.at T u;have o:=x2.at T o;have n2:h.next+2<=h2.next:=by have:=x2.next;omega
 simp only[Aa];rw[zt];have x3:Ext h2 (h2.new (.cells (Bh Vy) 134)):=Aw.new _ _;have C:(h2.new (.cells (Bh Vy) 134)).get h2.next=some (.cells (Bh Vy) 134):=Ad _ _
 have u:=x3.at aa u;have o:=x3.at aa o;have ab:=x3.hb aa;have ah:=a2.trans x3;have n3:(h2.new (.cells (Bh Vy) 134)).next=h2.next+1:=rfl
 generalize h2.new (.cells (Bh Vy) 134)=h3 at x3 C u o ab ah n3⊢;generalize h2.next=P at C n2 n3⊢
 have bl:(Bh (Ea e).1).length=44:=by rw[Bf,sN w]
 refine Ok.st (Bh (Ea e).1) C rfl (by show Fw (Bh (Ea e).1)=44;rw[Be,bl]) (Bl (by rw[Bf];exact bl.symm)) ?_;have ai:=ab _ _ C;have C:(h3.put P (.cells (Bh (Ea e).1) 134)).get P=some (.cells (Bh (Ea e).1) 134):=Af _ _ _;have u:(h3.put P (.cells (Bh (Ea e).1) 134)).get h.next=some (.cells e.cells 151):=by rw[Ae _];exact u
 have o:(h3.put P (.cells (Bh (Ea e).1) 134)).get (h.next+1)=some (.cells Fr.zero.cells 136):=by rw[Ae _];exact o
 have x4:Ext h (h3.put P (.cells (Bh (Ea e).1) 134)):=ah.Ao (.inr a_) ai _;have U:=ab.put ai (.cells (Bh (Ea e).1) 134);have n4:(h3.put P (.cells (Bh (Ea e).1) 134)).next=P+1:=n3
 generalize h3.put P (.cells (Bh (Ea e).1) 134)=h4 at C u o x4 U n4⊢
 try simp only[Aa]
 rw[Cy u rfl,l0];simp only[G6];rw[Cv C rfl,Ai bl];simp only[G6]
 try rw[Fr.Ii]
 rw[Ax (Bbu e.kind Am off As seq bl)]
 try simp only[Aa]
 have Y:Ext h4 (h4.new (.cells Fr.zero.cells 136)):=Aw.new _ _;have B:(h4.new (.cells Fr.zero.cells 136)).get h4.next=some (.cells Fr.zero.cells 136):=Ad _ _
 have u:=Y.at U u;have o:=Y.at U o;have L:=Y.hb U;have aj:=x4.trans Y;generalize h4.new (.cells Fr.zero.cells 136)=J at Y B u o L aj⊢;generalize h4.next=Q at B n4⊢
 refine Ok.st (⟨e.kind,Am,off,As,seq,(Ea e).1⟩:Fr).cells B rfl (by show Fw (⟨e.kind,Am,off,As,seq,(Ea e).1⟩:Fr).cells=49;rw[Be,fl]) (Bl (by rw[zl];exact fl.symm)) ?_;have al:=L _ _ B;have B:(J.put Q (.cells (⟨e.kind,Am,off,As,seq,(Ea e).1⟩:Fr).cells 136)).get Q=some (.cells (⟨e.kind,Am,off,As,seq,(Ea e).1⟩:Fr).cells 136):=Af _ _ _;have u:(J.put Q (.cells (⟨e.kind,Am,off,As,seq,(Ea e).1⟩:Fr).cells 136)).get h.next=some (.cells e.cells 151):=by rw[Ae _];exact u
 have o:(J.put Q (.cells (⟨e.kind,Am,off,As,seq,(Ea e).1⟩:Fr).cells 136)).get (h.next+1)=some (.cells Fr.zero.cells 136):=by rw[Ae _];exact o
 have x6:Ext h (J.put Q (.cells (⟨e.kind,Am,off,As,seq,(Ea e).1⟩:Fr).cells 136)):=aj.Ao (.inr a_) al _;have E:=L.put al (.cells (⟨e.kind,Am,off,As,seq,(Ea e).1⟩:Fr).cells 136);generalize J.put Q (.cells (⟨e.kind,Am,off,As,seq,(Ea e).1⟩:Fr).cells 136)=h6 at B u o x6 E⊢;have a6:(Ea e).2=if jN e=true then 0 else 10:=by unfold Ea;split<;>rfl
 rw[a6];unfold J3 at fin⊢;generalize a7:(⟨e.kind,Am,off,As,seq,(Ea e).1⟩:Fr)=f at fin X fl B⊢;have no:∀W:Ab,Ext h6 W->¬(jN e=true/\hQ f=true/\e.first<=seq/\seq-e.count<e.first)->Ok (Bp (Df [(0,1),(1,1),(2,1),(3,1),(4,1),(5,44)]) Fr.zero.cells [] fun a8=>Vz 49 (.ptr (h.next+1) 0) a8 W fun z=>Gi TT [.c (.ptr (h.next+1) 0) 136,.v (.int .i64 10)] z) _:=fun W O ba=>by
  rw[Ax (l:=Fr.zero.cells) rfl];exact fin Fr.zero 10 W _ (fun _=>rfl) (O.hb E) (x6.trans O) (O.at E o) Fr.G7 (by rw[aK ba])
 simp only[I,Ac];by_cases hr:jN e=true
 ·rw[aN hr]
  simp only[aC,aA,Aa];rw[Cv B rfl,Ai fl];simp only[G6];refine(zm (K:=K) f).Al ?_;rintro _ W ⟨rfl,O⟩;have u:=O.at E u;cases hf:hQ f with
  | false=>
   simp only[Aa,Ac,Nv,J5,Hu];have r:=no W O (by rw[hf];simp);rw[hf]at r;exact r
  | true=>
   have ad:=hf;rw[<-a7]at ad;simp only[hQ,bD]at ad;have bp:=J8.1 ad.2.2.2.2;have bt:=(zu hr).2.2.2.1;have rr:=no W O;have rf:=fin f 0 W (fun z=>Gi TT [RV.c (EV.ptr (h.next+1) 0) 136,RV.v (EV.int IntKind.i64 0)] z) (fun _=>rfl) (O.hb E) (x6.trans O) (O.at E o) X;rw[hf]at rr rf;simp only[eq_self]at rr rf;simp only[Aa,Ac,Nv];rw[Cy u rfl,l1];simp only[G6,I,Ac];by_cases aq:seq<e.first
   ·rw[show decide (seq<e.first)=true from aQ aq]
    simp only[Aa,Ac,J5,Hu];exact rr fun y=>a_
   ·rw[show decide (seq<e.first)=false from aS aq]
    simp only[Aa,Ac,J5];rw[Cy u rfl,l1];simp only[G6];rw[Cy u rfl,l2];simp only[G6,I,Ac];rw[Ci];by_cases au:e.first<=seq-e.count
    ·rw[show decide (e.first<=seq-e.count)=true from aQ au]
     simp only[Aa,Ac,Hu];exact rr fun y=>a_
    ·rw[show decide (e.first<=seq-e.count)=false from aS au]
     simp only[Aa,Ac,Hu,MI];rw[Cv (O.at E B) rfl,Ai fl];exact rf (by rw[aN ⟨hr,trivial,a_,a_⟩])
 ·rw[aK hr]
  simp only[show ¬((10:Int)=0) from c_,aH,aB,Aa,Ac,Nv,J5,Hu];exact no h6 (Aw.refl _) fun y=>hr y.1
def En.zero:En:=⟨0,0,0,0,0,0,D8⟩
theorem En.Ii:List.replicate 6 (EV.int .i64 0)++List.replicate 32 (EV.int .u8 0)=En.zero.cells:=by kernel_rfl
theorem En.G7:En.zero.Wf:=⟨rfl,fun b hb=>by rw[cC hb];decide⟩
theorem vJ:TT.size 151=some 38/\TT.agg 151=some true:=⟨by kernel_rfl,by kernel_rfl⟩
def lO(kind:Int)(p:List Nat):En:=⟨kind,Lx (p.take 6),Lx ((p.drop 6).take 1),Lx (((p.drop 6).drop 1).take 1),Lx ((((p.drop 6).drop 1).drop 1).take 2),Lx (((((p.drop 6).drop 1).drop 1).drop 2).take 2),((((((p.drop 6).drop 1).drop 1).drop 2).drop 2).take 32)⟩
theorem UN{p:List Nat}(o:p.length=44)(hu:∀b∈p,b<256):(lO kind p).Wf:=by
 refine⟨?_,fun b hb=>hu b ?_⟩
 ·simp only[lO,bH,aU,o];decide
 ·simp only[lO]at hb
  exact aG (aG (aG (aG (aG (bS hb)))))
def hO(kind:Int)(p:List Nat):En × Int:=
 if(Ea (lO kind p)).2=0/\(Ea (lO kind p)).1=p then(lO kind p,0)else(En.zero,10)
theorem UO{p:List Nat}(o:p.length=44)(hu:∀b∈p,b<256):(hO kind p).1.Wf:=by
 unfold hO;split
 ·exact UN o hu
 ·exact En.G7
theorem Bbm(k:Int)(a b c d e:Nat):iT (Df [(0,1),(1,1),(2,1),(3,1),(4,1),(5,1),(6,32)]) [(0,I k),(1,Nk .i64 a),(2,Nk .i64 b),(3,Nk .i64 c),(4,Nk .i64 d),(5,Nk .i64 e)] En.zero.cells=some ([I k,Nk .i64 a,Nk .i64 b,Nk .i64 c,Nk .i64 d,Nk .i64 e]++Bh D8):=rfl
theorem Ba0{p:List Nat}(hp:p.length=44)(hu:∀b∈p,b<256)(hb:HB h)(hK:10000<K)(kind:Int):
 Ok (tR K (I kind) (.agg (Bh p)) h) fun v h'=>v=.tuple [.agg (hO kind p).1.cells,I (hO kind p).2]/\Ext h h':=by
 have zl:=En.Ay En.G7;have ul:(Bh p).length=44:=by rw[Bf,hp]
 simp only[tR,Aa];rw[En.Ii];have x1:Ext h ((h.new (.cells (Bh p) 134)).new (.cells En.zero.cells 151)):=(Aw.new _ _).Da _;have u:((h.new (.cells (Bh p) 134)).new (.cells En.zero.cells 151)).get h.next=some (.cells (Bh p) 134):=by
  rw[Az _ (aO _)];exact Ad _ _
 have g4:((h.new (.cells (Bh p) 134)).new (.cells En.zero.cells 151)).get (h.next+1)=some (.cells En.zero.cells 151):=Ad _ _;have n1:((h.new (.cells (Bh p) 134)).new (.cells En.zero.cells 151)).next=h.next+2:=rfl
 rw[show(h.new (.cells (Bh p) 134)).next=h.next+1 from rfl];generalize (h.new (.cells (Bh p) 134)).new (.cells En.zero.cells 151)=h1 at x1 u g4 n1⊢;have bt:=x1.hb hb;have gk:=UN (kind:=kind) hp hu;have fin:∀(e:En) (er:Int) (h5:Ab) (kk:Ab->R),(∀h',kk h'=Gi TT [.c (.ptr (h.next+1) 0) 151,.v (I er)] h')->HB h5->Ext h h5->h5.get (h.next+1)=some (.cells En.zero.cells 151)->e.Wf->(e,er)=hO kind p ->
  Ok (Vz 38 (.ptr (h.next+1) 0) (.agg e.cells) h5 kk) fun v h'=>v=.tuple [.agg (hO kind p).1.cells,I (hO kind p).2]/\Ext h h':=by
  intro e er h5 kk di ai x5 g5 wf he;have fl:=En.Ay wf;refine Ok.st e.cells g5 rfl (by show Fw e.cells=38;rw[Be,fl]) (Bl (by rw[zl];exact fl.symm)) ?_;have g6:(h5.put (h.next+1) (.cells e.cells 151)).get (h.next+1)=some (.cells e.cells 151):=Af _ _ _;rw[di,Du g6 vJ.1 vJ.2 fl,<-he];exact .ret ⟨rfl,x5.Ao (.inr a_) (ai _ _ g5) _⟩
 rw[show ∀k:EV->R,Oa 44 1 (.ptr h.next 0) none none none k=k (.slice h.next 0 44 44 false)from fun k=>rfl];have bs:Bs h1 (.slice h.next 0 44 44 false) h.next 0 p:=by
  refine⟨44,false,_,Bh p,by rw[hp],a_,u,rfl,by rw[ul];omega,?_⟩;rw[dK,hp,<-ul,cF]
 refine(vr (K:=K) bs bt).Al ?_;rintro _ h5 ⟨Rr,q,rfl,d0,x5,ai,eg⟩;have u:=x5.at bt u;have g4:=x5.at bt g4;have dj:=x1.trans x5;have ei:Rr<h5.next:=by obtain⟨_,g,_⟩:=d0.Ly;exact ai _ _ g
 have ej:h.next+1<Rr:=by have:=d0.ne;omega
 have up:∀{ha hc:Ab},Ext h ha->Aw (fun i=>i=Rr) ha hc->Ext h hc:=fun x c=>x.then c fun j hj dm=>by
  have hj:j=Rr:=hj;omega
 have Hb:∀{ha hc:Ab} {i:Nat} {o:Ds},Aw (fun i=>i=Rr) ha hc->HB ha->ha.get i=some o->i≠Rr->hc.get i=some o:=fun c hb g hi=>c.at hb g hi
 refine(Lk (K:=K) (w:=6) d0 ai a_ c_ c_ a_ hu).Al ?_;rintro _ h6 ⟨rfl,d1,c6,bu⟩;have u:=Hb c6 ai u a_;have g4:=Hb c6 ai g4 a_;have x6:=up dj c6;refine(Lk (K:=K) (w:=1) d1 bu a_ c_ c_ (by simp only[aU];omega) (fun b hb=>hu b (aG hb))).Al ?_;rintro _ h7 ⟨rfl,d2,c7,bw⟩;have u:=Hb c7 bu u a_;have g4:=Hb c7 bu g4 a_;have x7:=up x6 c7;refine(Lk (K:=K) (w:=1) d2 bw a_ c_ c_ (by simp only[aU];omega) (fun b hb=>hu b (aG (aG hb)))).Al ?_;rintro _ h8 ⟨rfl,d3,c8,bx⟩;have u:=Hb c8 bw u a_;have g4:=Hb c8 bw g4 a_;have x8:=up x7 c8;refine(Lk (K:=K) (w:=2) d3 bx a_ c_ c_ (by simp only[aU];omega) (fun b hb=>hu b (aG (aG (aG hb))))).Al ?_;rintro _ h9 ⟨rfl,d4,c9,bz⟩;have u:=Hb c9 bx u a_;have g4:=Hb c9 bx g4 a_;have x9:=up x8 c9;refine(Lk (K:=K) (w:=2) d4 bz a_ c_ c_ (by simp only[aU];omega) (fun b hb=>hu b (aG (aG (aG (aG hb)))))).Al ?_;rintro _ aa ⟨rfl,d5,a8,ag⟩;have u:=Hb a8 bz u a_;have g4:=Hb a8 bz g4 a_;have dt:=up x9 a8
 try rw[En.Ii]
 rw[Ax (Bbm kind _ _ _ _ _)]
 try simp only[Aa]
 have al:Ext aa (aa.new (.cells En.zero.cells 151)):=Aw.new _ _;have U:(aa.new (.cells En.zero.cells 151)).get aa.next=some (.cells En.zero.cells 151):=Ad _ _
 have cf:(aa.new (.cells En.zero.cells 151)).next=aa.next+1:=rfl
 have u:=al.at ag u;have g4:=al.at ag g4;have W:=al.hb ag;have d5:=d5.ext ag al;have ch:=dt.trans al;have hF:Rr<aa.next:=by have:=c6.next;have:=c7.next;have:=c8.next;have:=c9.next;have:=a8.next;omega
 generalize aa.new (.cells En.zero.cells 151)=aw at al U cf u g4 W d5 ch⊢;generalize aa.next=Fb at U cf hF⊢
 have T:(((((p.drop 6).drop 1).drop 1).drop 2).drop 2).length=32:=by simp only[aU];omega
 unfold hO lO at fin⊢;unfold lO at gk;generalize (((((p.drop 6).drop 1).drop 1).drop 2).drop 2)=body at d5 T fin gk⊢;generalize Lx (p.take 6)=B at fin gk⊢;generalize Lx ((p.drop 6).take 1)=C at fin gk⊢;generalize Lx (((p.drop 6).drop 1).take 1)=J at fin gk⊢;generalize Lx ((((p.drop 6).drop 1).drop 1).take 2)=L at fin gk⊢;generalize Lx (((((p.drop 6).drop 1).drop 1).drop 2).take 2)=O at fin gk⊢;have ct:body.take 32=body:=bK a_;rw[ct]at fin gk⊢;have bk:([I kind,Nk .i64 B,Nk .i64 C,Nk .i64 J,Nk .i64 L,Nk .i64 O]++Bh D8).length=38:=by rw[aE,Bf];rfl
 refine Ok.st ([I kind,Nk .i64 B,Nk .i64 C,Nk .i64 J,Nk .i64 L,Nk .i64 O]++Bh D8) U rfl (by show Fw ([I kind,Nk .i64 B,Nk .i64 C,Nk .i64 J,Nk .i64 L,Nk .i64 O]++Bh D8)=38;rw[Be,bk]) (Bl (by rw[zl];exact bk.symm)) ?_;have lF:=W _ _ U;have ax:Aw (fun i=>i=Fb) aw (aw.put Fb (.cells ([I kind,Nk .i64 B,Nk .i64 C,Nk .i64 J,Nk .i64 L,Nk .i64 O]++Bh D8) 151)):=(Aw.refl (S:=fun i=>i=Fb) aw).Ao (.inl rfl) lF _;have U:(aw.put Fb (.cells ([I kind,Nk .i64 B,Nk .i64 C,Nk .i64 J,Nk .i64 L,Nk .i64 O]++Bh D8) 151)).get Fb=some (.cells ([I kind,Nk .i64 B,Nk .i64 C,Nk .i64 J,Nk .i64 L,Nk .i64 O]++Bh D8) 151):=Af _ _ _;have X:=W.put lF (.cells ([I kind,Nk .i64 B,Nk .i64 C,Nk .i64 J,Nk .i64 L,Nk .i64 O]++Bh D8) 151);generalize aw.put Fb (.cells ([I kind,Nk .i64 B,Nk .i64 C,Nk .i64 J,Nk .i64 L,Nk .i64 O]++Bh D8) 151)=du at ax U X⊢;have cw:∀{ha hc:Ab},Ext h ha->Aw (fun i=>i=Fb) ha hc->Ext h hc:=fun x c=>x.then c fun j hj dm=>by
  have hj:j=Fb:=hj;omega
 have ad:∀{ha hc:Ab} {i:Nat} {o:Ds},Aw (fun i=>i=Fb) ha hc->HB ha->ha.get i=some o->i≠Fb->hc.get i=some o:=fun c hb g hi=>c.at hb g hi
 have u:=ad ax W u a_;have g4:=ad ax W g4 a_;have d5:=d5.chg W ax (by have:=d5.ne;intro y;omega) (by intro y;omega);have dw:=cw ch ax
 try simp only[Aa]
 rw[show ∀k:EV->R,Oa 32 1 (.ptr Fb 6) none none none k=k (.slice Fb 6 32 32 false)from fun k=>rfl];have dl:Rd du.lift Rr q (0+6+1+1+2+2) body:=d5.chg X (S:=fun _=>False) ⟨fun i _ _=>Bv _ _,aD _,fun w _ w2 _=>w2,fun y=>Cz y⟩ id id;refine Ok.bC (S:=fun i=>i=Rr) (UF (K:=K) (n:=32) dl (Cz X) c_) (fun _ _ p=>p.2.2.1) ?_;rintro cx ea ay s' ⟨az,_,_,b5⟩ bn ba b6;have ah:=bn.hb b5;have az:=az.frame (bn.get _);rw[ct]at az;have u:=Hb ba X u a_;have g4:=Hb ba X g4 a_;have U:=Hb ba X U a_;have dx:=up dw ba;have hlen:lenOf cx=some 32:=by have:=az.len;rw[T]at this;exact this
 have cA:Pw ay.lift 1 32 cx=some (Bh body):=by have:=az.lift.cells;rw[T]at this;exact this
 have dy:=zo (h:=ay.lift) (i:=Fb) (n:=32) (r:=32) (op:=false) (t:=151) (hd:=[I kind,Nk .i64 B,Nk .i64 C,Nk .i64 J,Nk .i64 L,Nk .i64 O]) (Cn:=Bh D8) (by rw[Bv];exact U) hlen c_ cA (by rw[Bf,T]) (by rw[Bf];rfl);have cB:=ah _ _ U;refine Ok.qI (S:=fun i=>i=Fb) (by rcases b6 with rfl|⟨w,rfl,_⟩<;>kernel_rfl) (by rcases b6 with rfl|⟨w,rfl,_⟩<;>kernel_rfl) (fun w=>by rcases b6 with rfl|⟨w,rfl,_⟩<;>kernel_rfl) (P:=fun v h'=>h'=ay.lift.put Fb (.cells ([I kind,Nk .i64 B,Nk .i64 C,Nk .i64 J,Nk .i64 L,Nk .i64 O]++Bh body) 151)) ⟨_,_,dy,rfl⟩ (fun _ _ p=>by rw[p];exact(Aw.refl (S:=fun i=>i=Fb) ay.lift).Ao (.inl rfl) (show Fb<ay.lift.next from cB) _) ?_;rintro ey eb dA s2 rfl cG bb _;have ae:=bb.hb ah;have U:dA.get Fb=some (.cells (⟨kind,B,C,J,L,O,body⟩:En).cells 151):=by rw[cG.get];exact Af _ _ _
 have u:=ad bb ah u a_;have g4:=ad bb ah g4 a_;have dB:=cw dx bb;generalize hE:(⟨kind,B,C,J,L,O,body⟩:En)=E at fin gk U⊢;have el:=En.Ay gk;rw[Cv U rfl,Ai el];simp only[G6];refine(UK (K:=K) gk ae hK).Al ?_;rintro _ af ⟨rfl,a1⟩;have Y:=a1.hb ae;have u:=a1.at ae u;have g4:=a1.at ae g4;have U:=a1.at ae U;have bo:=dB.trans a1;have c0:=Y _ _ U
 try simp only[Aa]
 rw[zt];have ao:Ext af (af.new (.cells (Bh Vy) 134)):=Aw.new _ _;have g8:(af.new (.cells (Bh Vy) 134)).get af.next=some (.cells (Bh Vy) 134):=Ad _ _
 have u:=ao.at Y u;have g4:=ao.at Y g4;have U:=ao.at Y U;have a2:=ao.hb Y;have bp:=bo.trans ao;have c5:h.next+2<=af.next:=by have:=x1.next;have:=bo.next;have:=Y _ _ (by assumption:af.get (h.next+1)=some (.cells En.zero.cells 151));omega
 generalize af.new (.cells (Bh Vy) 134)=aq at ao g8 u g4 U a2 bp⊢;generalize af.next=P at g8 c0 c5⊢
 have bl:(Bh (Ea E).1).length=44:=by rw[Bf,sN gk]
 refine Ok.st (Bh (Ea E).1) g8 rfl (by show Fw (Bh (Ea E).1)=44;rw[Be,bl]) (Bl (by rw[Bf];exact bl.symm)) ?_;have l8:=a2 _ _ g8;have g8:(aq.put P (.cells (Bh (Ea E).1) 134)).get P=some (.cells (Bh (Ea E).1) 134):=Af _ _ _;have u:(aq.put P (.cells (Bh (Ea E).1) 134)).get h.next=some (.cells (Bh p) 134):=by rw[Ae _];exact u
 have g4:(aq.put P (.cells (Bh (Ea E).1) 134)).get (h.next+1)=some (.cells En.zero.cells 151):=by rw[Ae _];exact g4
 have U:(aq.put P (.cells (Bh (Ea E).1) 134)).get Fb=some (.cells E.cells 151):=by rw[Ae _];exact U
 have a5:Ext h (aq.put P (.cells (Bh (Ea E).1) 134)):=bp.Ao (.inr a_) l8 _;have a6:=a2.put l8 (.cells (Bh (Ea E).1) 134);generalize aq.put P (.cells (Bh (Ea E).1) 134)=ca at g8 u g4 U a5 a6⊢;simp only[I,Ac];have no:¬((Ea E).2=0/\(Ea E).1=p)->Ok (Bp (Df [(0,1),(1,1),(2,1),(3,1),(4,1),(5,1),(6,32)]) En.zero.cells [] fun dC=>Vz 38 (.ptr (h.next+1) 0) dC ca fun z=>Gi TT [.c (.ptr (h.next+1) 0) 151,.v (.int .i64 10)] z) _:=fun dD=>by
  rw[Ax (l:=En.zero.cells) rfl];exact fin En.zero 10 ca _ (fun _=>rfl) a6 a5 g4 En.G7 (by rw[aK dD])
 by_cases h0:(Ea E).2=0
 ·rw[show decide (¬(Ea E).2=0)=false from aS fun y=>y h0]
  simp only[Aa];rw[Cv g8 rfl,Ai bl];simp only[G6];rw[Cv u rfl,Ai ul];simp only[G6];rw[Bhb Br3 (sN gk) hp];by_cases bf:(Ea E).1=p
  ·rw[show decide (¬(Ea E).1=p)=false from aS fun y=>y bf]
   simp only[tQ,Aa,MC];rw[Cv U rfl,Ai el];exact fin E 0 ca _ (fun _=>rfl) a6 a5 g4 gk (by rw[aN ⟨h0,bf⟩])
  ·rw[show decide (¬(Ea E).1=p)=true from aQ bf]
   simp only[tQ,Aa];exact no fun y=>bf y.2
 ·rw[show decide (¬(Ea E).2=0)=true from aQ h0]
  simp only[Aa,tQ];exact no fun y=>h0 y.1
def Vb(f:Fr):En × Int:=
 if ¬(hO f.kind f.body).2=0 then(En.zero,(hO f.kind f.body).2)else
 if ¬(J3 (hO f.kind f.body).1 f.Am f.off f.As f.seq).2=0 then(En.zero,(J3 (hO f.kind f.body).1 f.Am f.off f.As f.seq).2)else((hO f.kind f.body).1,0)
theorem A20(w:f.Wf)(hb:HB h)(hK:10000<K):
 Ok (tT K (.agg f.cells) h) fun v h'=>v=.tuple [.agg (Vb f).1.cells,I (Vb f).2]/\(Vb f).1.Wf/\Ext h h':=by
 have l0:f.cells[0]? = some (I f.kind):=rfl;have l1:f.cells[1]? = some (I f.Am):=rfl;have l2:f.cells[2]? = some (I f.off):=rfl;have l3:f.cells[3]? = some (I f.As):=rfl;have l4:f.cells[4]? = some (I f.seq):=rfl;have ah:=Fr.Ay w;have l5:Ke f.cells 5 44=some (Bh f.body):=by
  rw[E4 (by rw[ah];decide)];show some (List.take 44 (Bh f.body))=_;rw[bK (by rw[Bf,w.len];decide)]
 have zl:=En.Ay En.G7;have C:=UO (kind:=f.kind) w.len w.u8;have ol:=En.Ay C;simp only[tT,Aa];rw[En.Ii];have x1:Ext h ((h.new (.cells f.cells 136)).new (.cells En.zero.cells 151)):=(Aw.new _ _).Da _;have o:((h.new (.cells f.cells 136)).new (.cells En.zero.cells 151)).get h.next=some (.cells f.cells 136):=by
  rw[Az _ (aO _)];exact Ad _ _
 have u:((h.new (.cells f.cells 136)).new (.cells En.zero.cells 151)).get (h.next+1)=some (.cells En.zero.cells 151):=Ad _ _;have n1:((h.new (.cells f.cells 136)).new (.cells En.zero.cells 151)).next=h.next+2:=rfl
 rw[show(h.new (.cells f.cells 136)).next=h.next+1 from rfl];generalize (h.new (.cells f.cells 136)).new (.cells En.zero.cells 151)=h1 at x1 o u n1⊢;have E:=x1.hb hb;have fin:∀(e:En) (U:Int) (J:Ab) (kk:Ab->R),(∀h',kk h'=Gi TT [.c (.ptr (h.next+1) 0) 151,.v (I U)] h')->HB J->Ext h J->J.get (h.next+1)=some (.cells En.zero.cells 151)->e.Wf->(e,U)=Vb f ->
  Ok (Vz 38 (.ptr (h.next+1) 0) (.agg e.cells) J kk) fun v h'=>v=.tuple [.agg (Vb f).1.cells,I (Vb f).2]/\(Vb f).1.Wf/\Ext h h':=by
  intro e U J kk aj L W g5 wf he;have fl:=En.Ay wf;refine Ok.st e.cells g5 rfl (by show Fw e.cells=38;rw[Be,fl]) (Bl (by rw[zl];exact fl.symm)) ?_;have g6:(J.put (h.next+1) (.cells e.cells 151)).get (h.next+1)=some (.cells e.cells 151):=Af _ _ _;rw[aj,Du g6 vJ.1 vJ.2 fl,<-he];exact .ret ⟨rfl,wf,W.Ao (.inr a_) (L _ _ g5) _⟩
 rw[Cy o rfl,l0];simp only[G6];rw[Cv o rfl,l5];simp only[G6];refine(Ba0 (K:=K) w.len w.u8 E hK f.kind).Al ?_;rintro _ h2 ⟨rfl,X⟩;have O:=X.hb E;have al:=x1.trans X;have o:=X.at E o;have u:=X.at E u;have n2:h.next+2<=h2.next:=by have:=X.next;omega
 try simp only[Aa]
 try rw[En.Ii]
 have Y:Ext h2 (h2.new (.cells En.zero.cells 151)):=Aw.new _ _;have g4:(h2.new (.cells En.zero.cells 151)).get h2.next=some (.cells En.zero.cells 151):=Ad _ _
 have o:=Y.at O o;have u:=Y.at O u;have T:=Y.hb O;have aa:=al.trans Y;generalize h2.new (.cells En.zero.cells 151)=h3 at Y g4 o u T aa⊢;generalize h2.next=P at g4 n2⊢
 refine Ok.st (hO f.kind f.body).1.cells g4 rfl (by show Fw (hO f.kind f.body).1.cells=38;rw[Be,ol]) (Bl (by rw[zl];exact ol.symm)) ?_;have ad:=T _ _ g4;have g4:(h3.put P (.cells (hO f.kind f.body).1.cells 151)).get P=some (.cells (hO f.kind f.body).1.cells 151):=Af _ _ _;have o:(h3.put P (.cells (hO f.kind f.body).1.cells 151)).get h.next=some (.cells f.cells 136):=by rw[Ae _];exact o
 have u:(h3.put P (.cells (hO f.kind f.body).1.cells 151)).get (h.next+1)=some (.cells En.zero.cells 151):=by rw[Ae _];exact u
 have x4:Ext h (h3.put P (.cells (hO f.kind f.body).1.cells 151)):=aa.Ao (.inr a_) ad _;have B:=T.put ad (.cells (hO f.kind f.body).1.cells 151);generalize h3.put P (.cells (hO f.kind f.body).1.cells 151)=h4 at g4 o u x4 B⊢;unfold Vb at fin⊢;generalize (hO f.kind f.body).2=U at fin⊢;generalize (hO f.kind f.body).1=e at fin C ol g4⊢;simp only[I,Ac];by_cases h0:U=0
 ·subst h0
  simp only[aC,aA,Aa,ak,MK]at fin⊢;rw[Cv g4 rfl,Ai ol];simp only[G6];rw[Cy o rfl,l1];simp only[G6,Aa];rw[Cy o rfl,l2];simp only[G6,Aa];rw[Cy o rfl,l3];simp only[G6,Aa];rw[Cy o rfl,l4];simp only[G6,Aa];refine(zx (K:=K) C B hK f.Am f.off f.As f.seq).Al ?_;rintro _ J ⟨rfl,W⟩;have L:=W.hb B;have u:=W.at B u;have g4:=W.at B g4;have ae:=x4.trans W;generalize (J3 e f.Am f.off f.As f.seq).2=af at fin⊢;simp only[Aa,I,Ac];by_cases ag:af=0
  ·subst ag
   simp only[aC,aA,Aa,ak,MJ]at fin⊢;rw[Cv g4 rfl,Ai ol];exact fin e 0 J _ (fun _=>rfl) L ae u C rfl
  ·simp only[ag,aH,aB,Aa,bM]at fin⊢
   rw[Ax (l:=En.zero.cells) rfl];exact fin En.zero af J _ (fun _=>rfl) L ae u En.G7 rfl
 ·simp only[h0,aH,aB,Aa,bM]at fin⊢
  rw[Ax (l:=En.zero.cells) rfl];exact fin En.zero U h4 _ (fun _=>rfl) B x4 u En.G7 rfl
theorem zy:∀(w a:Nat),Lx (N1 w a)=a%256^w
 | 0,a=>by simp[N1,Lx,Nat.mod_one]
 | w+1,a=>by
  rw[vX,zk,zy w a,C9,Nat.mod_pow_succ]
theorem Ih {w:Nat}{b:Int}(h0:0<=v)(hb:v<=b)(hw:b<(256^w:Nat)):((Lx (N1 w v.toNat):Nat):Int)=v:=by
 rw[zy,fV a_];omega
theorem oU {a b:List Nat}(h:a.length=n):(a++b).take n=a:=by subst h;simp
theorem oV {a b:List Nat}(h:a.length=n):(a++b).drop n=b:=by subst h;simp
theorem Bct(w:f.Wf):o7 (Mh f)=true:=by
 have o:=qE w;have h2:=qo w;unfold o7;rw[o];apply aQ;unfold Mh;rw[oU h2,oV h2]
theorem A7f(w:f.Wf)(o:hQ f=true):lK (jX f)=f/\Lx (((jX f).drop 1).take 1)=1:=by
 simp only[hQ,bD]at o;obtain⟨u,B,C,E,J⟩:=o;obtain⟨U,b1⟩:=J8.1 u;obtain⟨L,b2⟩:=J8.1 B;obtain⟨a3,b3⟩:=J8.1 C;obtain⟨a4,b4⟩:=J8.1 E;obtain⟨O,T⟩:=J8.1 J;have W:=w.len;have t44:f.body.take 44=f.body:=bK a_;unfold lK jX;simp only[bQ,oU (C9 _ _),oV (C9 _ _),t44];rw[Ih (w:=1) a_ b1 c_,Ih (w:=2) L b2 c_,Ih (w:=2) a3 b3 c_,Ih (w:=4) a_ b4 c_,Ih (w:=6) O T c_];exact⟨rfl,by rw[zy]⟩
theorem Bf1(w:f.Wf)(o:hQ f=true):Yn (Mh f)=(f,0):=by
 obtain⟨e1,e2⟩:=A7f w o;have h2:=qo w;have u:(Mh f).take 60=jX f:=by unfold Mh;exact oU h2
 unfold Yn;rw[aK (by rw[Bct w];simp),u,e1,aN ⟨e2,o⟩]
theorem Bmk(w:f.Wf)(o:hQ f=true):hM (Mh f) f.Am f.off=(f,0):=by
 unfold hM;rw[Bf1 w o];simp
theorem A26(w:e.Wf)(o:jN e=true):lO e.kind (Yg e)=e:=by
 obtain⟨⟨u,b1⟩,⟨B,b2⟩,⟨a3,b3⟩,⟨a4,b4⟩,⟨C,E⟩,_⟩:=zu o;have J:=w.len;have t32:e.bytes.take 32=e.bytes:=bK a_;unfold lO Yg;simp only[bQ,oU (C9 _ _),oV (C9 _ _),t32];rw[Ih (w:=6) u b1 c_,Ih (w:=1) a_ b4 c_,Ih (w:=1) B b2 c_,Ih (w:=2) C E c_,Ih (w:=2) a3 b3 c_]
theorem Bhm(w:e.Wf)(o:jN e=true):hO e.kind (Yg e)=(e,0):=by
 unfold hO;rw[A26 w o];unfold Ea;rw[aN o];simp
theorem A7l(w:e.Wf){Am off As seq:Int}(h:(J3 e Am off As seq).2=0):
 (J3 e Am off As seq).1=⟨e.kind,Am,off,As,seq,Yg e⟩/\hQ ⟨e.kind,Am,off,As,seq,Yg e⟩=true/\jN e=true/\Vb ⟨e.kind,Am,off,As,seq,Yg e⟩=(e,0):=by
 by_cases o:jN e=true/\hQ ⟨e.kind,Am,off,As,seq,(Ea e).1⟩=true/\e.first<=seq/\seq-e.count<e.first
 ·have hb:(Ea e).1=Yg e:=by unfold Ea;rw[aN o.1]
  have u:J3 e Am off As seq=(⟨e.kind,Am,off,As,seq,Yg e⟩,0):=by unfold J3;rw[aN o,hb]
  rw[hb]at o;refine⟨by rw[u],o.2.1,o.1,?_⟩;unfold Vb;simp only[Bhm w o.1,u];simp
 ·exfalso
  unfold J3 at h;rw[aK o]at h;exact absurd h c_
def Yj(g:Gm)(z off:Int):Bool:=rtB g&&(wi z 0 (g.D*g.Z-1)&&wi off 0 (g.S-1))
theorem tg(hb:HB h)(z off:Int):Ok (Ns K (gV g) (I z) (I off) h) fun v h'=>v=.bool (Yj g z off)/\Ext h h':=by
 simp only[Ns,gV,Aa];obtain⟨W,X,C,L,_⟩:=nW h (.cells (gL g) 23);rw[X];have o:=C.hb hb;rw[Cv L rfl,Ai (show(gL g).length=6 from rfl)];simp only[G6];rw[show EV.agg (gL g)=gV g from rfl];refine(Vf (K:=K) g W).Al ?_;rintro _ h2 ⟨rfl,u⟩;have J:=u.hb o;have O:=u.at o L;unfold Yj;cases Y:rtB g with
 | false=>
  simp only[Aa,Ac,Qq,Qb,bB];exact .ret ⟨rfl,C.trans u⟩
 | true=>
  have s:=No Y;have:=s.d0;have:=s.d1;have:=s.z0;have:=s.z1;have:=s.s0;have:=s.s1;obtain⟨m0,m1⟩:=Rp (a:=g.D) (b:=g.Z) (A:=8) (B:=64);simp only[Aa,Ac,bF];rw[Cv O rfl,Ai (show(gL g).length=6 from rfl)];simp only[G6];rw[show EV.agg (gL g)=gV g from rfl,Ot s,Aq];have E:Ext h2 (h2.new (.cells (gL g) 23)):=Aw.new _ _;have T:=E.at J O;generalize h2.new (.cells (gL g) 23)=U at E T⊢;simp only[I,Ac];rw[Ci];have w1:=yY (K:=K) z 0 (g.D*g.Z-1) U;simp only[I]at w1;rw[w1,Aq];cases wi z 0 (g.D*g.Z-1)with
  | false=>
   simp only[Aa,Ac,Qq,Qb,bB];exact .ret ⟨rfl,(C.trans u).trans E⟩
  | true=>
   simp only[Aa,Ac,Qq];rw[Cy T rfl,show(gL g)[2]? = some (I g.S)from rfl];simp only[G6,I,Ac];rw[Ci];have w2:=yY (K:=K) off 0 (g.S-1) U;simp only[I]at w2;rw[w2,Aq];simp only[Qb,Aa,bF];exact .ret ⟨rfl,(C.trans u).trans E⟩
structure Me where
 state:Int
 Am:Int
 Bw:Int
 off:Int
 seq:Int
 sum:Int
def Me.cells(m:Me):List EV:=[I m.state,I m.Am,I m.Bw,I m.off,I m.seq,I m.sum]
def o9(g:Gm)(m:Me):Bool:=Yj g m.Am m.off&&(Yj g m.Bw m.off&&(decide (¬D4 g m.Am=D4 g m.Bw)&&(decide (1<=m.seq)&&(decide (m.seq<=281474976710655)&&(decide (0<=m.sum)&&decide (m.sum<=4294967295))))))
def Vv(z:Int):Prop:=-9223372036854775808<=z/\z<=9223372036854775807
theorem zJ{m:Me}(hb:HB h)(hs:m.state=1)(hz:Vv m.Am)(hm:Vv m.Bw):Ok (Jm K (.agg m.cells) (gV g) h) fun v h'=>v=.bool (o9 g m)/\Ext h h':=by
 simp only[Jm,gV,Aa];have X:Ext h ((h.new (.cells m.cells 87)).new (.cells (gL g) 23)):=(Aw.new _ _).Da _;have o:((h.new (.cells m.cells 87)).new (.cells (gL g) 23)).get h.next=some (.cells m.cells 87):=by
  rw[Az _ (aO _)];exact Ad _ _
 have C:((h.new (.cells m.cells 87)).new (.cells (gL g) 23)).get (h.next+1)=some (.cells (gL g) 23):=Ad _ _;rw[show(h.new (.cells m.cells 87)).next=h.next+1 from rfl];generalize (h.new (.cells m.cells 87)).new (.cells (gL g) 23)=h1 at X o C⊢;have B:=X.hb hb;have l0:m.cells[0]? = some (I 1):=by rw[<-hs];rfl
 have l1:m.cells[1]? = some (I m.Am):=rfl;have l2:m.cells[2]? = some (I m.Bw):=rfl;have l3:m.cells[3]? = some (I m.off):=rfl;have l4:m.cells[4]? = some (I m.seq):=rfl;have l5:m.cells[5]? = some (I m.sum):=rfl;have Y:(gL g).length=6:=rfl;have u:=B _ _ o;have J:=B _ _ C;rw[Cy o rfl,l0];simp only[G6,I,Ac];simp only[show ¬((1:Int)=0) from c_,show ¬((1:Int)=2) from c_,aA,Aa,K8,Ac,aB];simp only[Aa,Cj J,Ar,Cv C rfl,Ai Y,Cj u,Cy o rfl,l1,l3,G6];rw[show EV.agg (gL g)=gV g from rfl];refine Ok.bE (tg (K:=K) (Cz B) m.Am m.off) (fun _ _ p=>p.2) ?_;rintro _ _ h2 ⟨rfl,_⟩ _ T;have L:=T.hb B;have o:=T.at B o;have C:=T.at B C;unfold o9;cases hh:Yj g m.Am m.off with
 | false=>
  simp only[Aa,Ac,K9,K2,Iv,Gj,Fi,Ek,bB];exact .ret ⟨rfl,X.trans T⟩
 | true=>
 have ad:rtB g=true:=by unfold Yj at hh;exact((bD _ _).mp hh).1
 have sm:=No ad;simp only[Aa,Ac,Cj J,Ar,Cv C rfl,Ai Y,Cj u,Cy o rfl,l2,l3,G6];rw[show EV.agg (gL g)=gV g from rfl];refine Ok.bE (tg (K:=K) (Cz L) m.Bw m.off) (fun _ _ p=>p.2) ?_;rintro _ _ h3 ⟨rfl,_⟩ _ x3;have O:=x3.hb L;have o:=x3.at L o;have C:=x3.at L C;have U:=(X.trans T).trans x3;simp only[bF];cases Yj g m.Bw m.off with
 | false=>
  simp only[Aa,Ac,K9,K2,Iv,Gj,Fi,Ek,bB];exact .ret ⟨rfl,U⟩
 | true=>
 simp only[Aa,Ac,K9,Cj J,Ar,Cv C rfl,Ai Y,Cj u,Cy o rfl,l1,G6,bF];rw[show EV.agg (gL g)=gV g from rfl];refine Ok.bE (Kb sm m.Am hz _) (fun _ _ p=>p.2) ?_;rintro _ _ h4 ⟨rfl,_⟩ _ x4;have W:=x4.hb O;have o:=x4.at O o;have C:=x4.at O C;simp only[Aa,Ac,Cj J,Ar,Cv C rfl,Ai Y,Cj u,Cy o rfl,l2,G6];rw[show EV.agg (gL g)=gV g from rfl];refine Ok.bE (Kb sm m.Bw hm _) (fun _ _ p=>p.2) ?_;rintro _ _ h5 ⟨rfl,_⟩ _ x5;have ao:=x5.hb W;have o:=x5.at W o;have E:=(U.trans x4).trans x5;simp only[Aa,Ac,I,K2];cases decide (¬D4 g m.Am=D4 g m.Bw)with
 | false=>
  simp only[Aa,Ac,Iv,Gj,Fi,Ek,bB];exact .ret ⟨rfl,E⟩
 | true=>
 simp only[Aa,Ac,Ar,Cj u,Cy o rfl,l4,G6,I,bF,Iv];cases decide (1<=m.seq)with
 | false=>
  simp only[Aa,Ac,Gj,Fi,Ek,bB];exact .ret ⟨rfl,E⟩
 | true=>
 simp only[Aa,Ac,Ar,Cj u,Cy o rfl,l4,G6,I,bF,Gj];cases decide (m.seq<=281474976710655)with
 | false=>
  simp only[Aa,Ac,Fi,Ek,bB];exact .ret ⟨rfl,E⟩
 | true=>
 simp only[Aa,Ac,Ar,Cj u,Cy o rfl,l5,G6,I,bF,Fi];cases decide (0<=m.sum)with
 | false=>
  simp only[Aa,Ac,Ek,bB];exact .ret ⟨rfl,E⟩
 | true=>
 simp only[Aa,Ac,Ar,Cj u,Cy o rfl,l5,G6,I,bF,Ek];exact .ret ⟨rfl,E⟩
structure Mi where
 g:Gm
 dr:Jj
 ps:Nat->List Int
 bad:Nat->Int
 a:Int
 b:Int
 u:Int
structure Asp(h:Ab)(m D p bl ql np:Nat)(q c:Nat->Nat)(S:Mi)(G H:Nat->Prop):Prop where
 Jb:Aca h m D p bl (S.g.D*S.g.Z).toNat S.g S.a S.b S.u S.bad
 Gt:E8 h p ql np q c S.g S.ps
 psz:Tm np S.g S.ps
 drv:Fo h D S.dr G
 apart:¬G m/\¬G bl/\¬G p/\¬G ql/\∀d,d<np->¬G (q d)/\¬G (c d)
 sub:(∀i,G i->H i)/\H m/\H bl/\H p/\H ql/\∀d,d<np->H (q d)/\H (c d)
structure Ss(h:Ab)(m:Nat)(S:Mi)(H:Nat->Prop):Prop where
 lt:∀i,H i->i<h.next
 Ly:∃D p bl ql np q c G,Asp h m D p bl ql np q c S G H
def Mi.Ja(S:Mi)(z:Int):Bool:=decide (0<=D4 S.g z)&&decide (S.bad z.toNat=1)
theorem O0{S:Mi}(s:Ss h m S H)(hb:HB h){z:Int}(C:Vv z):
 Ok (Eu K (.ptr m 0) (I z) h) fun v h'=>v=.bool (S.Ja z)/\Ext h h':=by
 obtain⟨D,p,bl,ql,np,q,c,G,a⟩:=s.Ly;have sm:=a.psz.sm;simp only[Eu,Aa,a.Jb.oY];refine(Kb sm z C h).Al ?_;rintro _ E ⟨rfl,u⟩;have B:=a.Jb.ext fun i o g=>u.at hb g
 unfold Mi.Ja;simp only[I,Ac];rcases lU sm z with hd|⟨d0,d1,d2,d3,d4⟩
 ·rw[hd]
  simp only[show ¬((0:Int)<=-1) from c_,aA,Aa,Tl,bB];exact .ret ⟨rfl,u⟩
 ·rw[aQ d0]
  simp only[Aa,B.TJ];obtain⟨j,rfl⟩:∃j:Nat,z=j:=⟨z.toNat,a_⟩;have hj:j<(S.g.D*S.g.Z).toNat:=a_
  rw[Md hj,Cy B.Ayw rfl];rw[show((List.range (S.g.D*S.g.Z).toNat).map fun z=>I (S.bad z))[0+j*1]? = some (I (S.bad j)) by rw[bI,cD,aY,cL hj];rfl];simp only[G6,I,Ac,Tl,Aa,bF];exact .ret ⟨rfl,u⟩
variable {S:Mi}
section
section
variable{p:Nat}{q c:Nat->Nat}(a:Asp h m D p bl ql np q c S G H)(hb:HB h)
include a hb
theorem Asp.lts:m<h.next/\bl<h.next/\p<h.next/\ql<h.next/\∀d,d<np->q d<h.next/\c d<h.next:=
 ⟨hb _ _ a.Jb.Jb,hb _ _ a.Jb.Ayw,hb _ _ a.Gt.Gt,hb _ _ a.Gt.row,fun d hd=>⟨hb _ _ (a.Gt.que d hd),hb _ _ (a.Gt.chan d hd)⟩⟩
theorem Asp.zA {dr:Jj}(d:Fo h' D dr (Bg G h h'))(o:Aw G h h'):Asp h' m D p bl ql np q c { S with dr:=dr } (Bg G h h') (Bg H h h'):=by
 obtain⟨l1,T,U,W,E⟩:=a.lts hb;obtain⟨J,L,n3,n4,C⟩:=a.apart;have u:∀{i},¬G i->i<h.next->¬Bg G h h' i:=fun y l z=>by
  rcases z with z|z
  ·exact y z
  ·omega
 refine⟨⟨o.at hb a.Jb.Jb J,o.at hb a.Jb.Ayw L⟩,?_,a.psz,d,⟨u J l1,u L T,u n3 U,u n4 W,fun d hd=>⟨u (C d hd).1 (E d hd).1,u (C d hd).2 (E d hd).2⟩⟩,?_⟩
 ·exact⟨a.Gt.pos,o.at hb a.Gt.Gt n3,o.at hb a.Gt.row n4,fun d hd=>o.at hb (a.Gt.que d hd) (C d hd).1,fun d hd=>o.at hb (a.Gt.chan d hd) (C d hd).2,a.Gt.inj⟩
 ·obtain⟨s1,s2,X,Y,s5,O⟩:=a.sub
  refine⟨fun i B=>?_,.inl s2,.inl X,.inl Y,.inl s5,fun d hd=>⟨.inl (O d hd).1,.inl (O d hd).2⟩⟩;rcases B with B|B
  ·exact .inl (s1 i B)
  ·exact .inr B
theorem Asp.po(P:E8 h' p ql np q c S.g ps)(Z:Tm np S.g ps)(o:Aw (mC np c) h h'):Asp h' m D p bl ql np q c { S with ps:=ps } G H/\Aw H h h':=by
 have u:∀i,G i->¬mC np c i:=by
  rintro i B ⟨d,hd,rfl⟩;exact(a.apart.2.2.2.2 d hd).2 B
 refine⟨⟨⟨o.at hb a.Jb.Jb (a.Gt.vD a.Jb.Jb trivial),o.at hb a.Jb.Ayw (a.Gt.vD a.Jb.Ayw trivial)⟩,P,Z,a.drv.chg o u,a.apart,a.sub⟩,o.mono ?_⟩;rintro i ⟨d,hd,rfl⟩;exact(a.sub.2.2.2.2.2 d hd).2
end
theorem Ss.ext(s:Ss h m S H)(hb:HB h)(x:Ext h h'):Ss h' m S H:=by
 obtain⟨D,p,bl,ql,np,q,c,G,a⟩:=s.Ly;have g:∀i o,h.get i=some o->h'.get i=some o:=fun i o g=>x.at hb g
 exact⟨fun i u=>aL (s.lt i u) x.next,D,p,bl,ql,np,q,c,G,a.Jb.ext g,a.Gt.ext g,a.psz,a.drv.ext x,a.apart,a.sub⟩
end
theorem Ss.mono{o:Nat->Prop}(s:Ss h m S H)(f:∀i,H i->o i)(l:∀i,o i->i<h.next):Ss h m S o:=by
 obtain⟨D,p,bl,ql,np,q,c,G,a⟩:=s.Ly;exact⟨l,D,p,bl,ql,np,q,c,G,a.Jb,a.Gt,a.psz,a.drv,a.apart,⟨fun i u=>f _ (a.sub.1 i u),f _ a.sub.2.1,f _ a.sub.2.2.1,f _ a.sub.2.2.2.1,f _ a.sub.2.2.2.2.1,fun d hd=>⟨f _ (a.sub.2.2.2.2.2 d hd).1,f _ (a.sub.2.2.2.2.2 d hd).2⟩⟩⟩
def Mi.leave(S:Mi)(z u:Int):Mi × Int:=
 if z = -1\/S.Ja z=true\/u=S.g.S then(S,0)else
 if u=0 then({ S with ps:=(X3 S.g S.g.D.toNat S.ps z).2 },(X3 S.g S.g.D.toNat S.ps z).1)else
 ({ S with dr:=(S.dr.finish z).1 },(S.dr.finish z).2)
theorem UP(A:Ca disp)(hK:10000<K)(hd:16<=d)(O:lQ disp K S.dr)(s:Ss h m S H)(hb:HB h){z:Int}(Y:Vv z)(u:Int):
 Ok (Ag TT disp K d false 184 [.ptr m 0,I z,I u] h) fun v h'=>v=I (S.leave z u).2/\Ss h' m (S.leave z u).1 (Bg H h h')/\Aw H h h'/\HB h':=by
 obtain⟨e,rfl⟩:=d_ d;rw[Akx A a_];have same:∀C,Ext h C->(z = -1\/S.Ja z=true\/u=S.g.S)->Ok (some (.int .i64 0,C)) fun v h'=>v=I (S.leave z u).2/\Ss h' m (S.leave z u).1 (Bg H h h')/\Aw H h h'/\HB h':=fun C x W=>by
  unfold Mi.leave;rw[aN W];obtain⟨_,D,p,bl,ql,np,q,c,G,a⟩:=s.ext hb x;refine .ret ⟨rfl,⟨Bg.lt s.lt x.next,D,p,bl,ql,np,q,c,G,⟨a.Jb,a.Gt,a.psz,a.drv,a.apart,⟨fun i o=>.inl (a.sub.1 i o),.inl a.sub.2.1,.inl a.sub.2.2.1,.inl a.sub.2.2.2.1,.inl a.sub.2.2.2.2.1,fun d hd=>⟨.inl (a.sub.2.2.2.2.2 d hd).1,.inl (a.sub.2.2.2.2.2 d hd).2⟩⟩⟩⟩,Ext.to x,x.hb hb⟩
 simp only[LA,I,Ac];by_cases C:z = -1
 ·rw[aQ C]
  simp only[Aa,Ac,Lq,H6];exact same h (Aw.refl _) (.inl C)
 ·rw[aS C]
  simp only[Aa];refine(O0 (K:=K) s hb Y).Al ?_;rintro _ h2 ⟨rfl,E⟩;have B:=E.hb hb;have s2:=s.ext hb E;obtain⟨X,D,p,bl,ql,np,q,c,G,a⟩:=s2;have e1:Et (.ptr m (1+2)) h2=fun k=>k (I S.g.S):=by
   funext k;rw[Cy a.Jb.Jb rfl];rfl
  cases T:S.Ja z with
  | true=>
   simp only[Aa,Ac,Lq,H6];exact same h2 E (.inr (.inl T))
  | false=>
   simp only[Aa,Ac,Lq];rw[e1];simp only[I,Ac];by_cases hu:u=S.g.S
   ·rw[aQ hu]
    simp only[Aa,Ac,H6];exact same h2 E (.inr (.inr hu))
   ·rw[aS hu]
    have W:¬(z = -1\/S.Ja z=true\/u=S.g.S):=by
     rintro(y|y|y)
     ·exact C y
     ·rw[T]at y;cases y
     ·exact hu y
    unfold Mi.leave;rw[aK W];simp only[Aa,Ac,H6];by_cases h0:u=0
    ·rw[aQ h0,aN h0]
     simp only[Aa,a.Jb.Gt];refine(TO (K:=K) A a.Gt B a.psz a_ (d:=e) a_ z Y).Al ?_;rintro _ U ⟨c3,J,rfl,P3,Z3⟩;obtain⟨a3,cH⟩:=a.po B P3 Z3 c3;have L:Aw H h U:=(Ext.to E).trans cH;have hn:=a.psz.nd;subst hn;refine .ret ⟨rfl,Ss.mono (H:=H) ⟨fun i o=>aL (s.lt i o) L.next,D,p,bl,ql,_,q,c,G,a3⟩ (fun _=>.inl) (Bg.lt s.lt L.next),L,J⟩
    ·rw[aS h0,aK h0]
     simp only[Aa,Y5,a.Jb.C0];refine(BF (K:=K) A (d:=e) a_ O a.drv B z).Al ?_;rintro _ U ⟨rfl,d3,c3,J⟩;have a3:=a.zA B d3 c3;have cH:Aw H h2 U:=c3.mono a.sub.1;have L:Aw H h U:=(Ext.to E).trans cH;refine .ret ⟨rfl,Ss.mono (H:=Bg H h2 U) ⟨Bg.lt X c3.next,D,p,bl,ql,np,q,c,_,a3⟩ (fun i o=>?_) (Bg.lt s.lt L.next),L,J⟩;rcases o with o|o
     ·exact .inl o
     ·exact .inr ⟨bN E.next o.1,o.2⟩
theorem UQ(D:Nat)(g:Gm)(p bl n:Nat)(a b u o B C:Int):(((Abp D g p bl n a b u).set 265 (I o)).set 266 (I B)).set 267 (I C)=Abp D g p bl n o B C:=by
 unfold Abp;have E:([EV.ptr D 0]++gL g++Bc).length=263:=by rw[aE,Qo];rfl
 rw[dh _ _ a_,E];show((([EV.ptr D 0]++gL g++Bc)++[EV.ptr p 0,.slice bl 0 n n false,I o,I b,I u]).set 266 (I B)).set 267 (I C)=_;rw[dh _ _ a_,E];show(([EV.ptr D 0]++gL g++Bc)++[EV.ptr p 0,.slice bl 0 n n false,I o,I B,I u]).set 267 (I C)=_;rw[dh _ _ a_,E];rfl
theorem Asp.zB{p:Nat}{q c:Nat->Nat}(a:Asp h m D p bl ql np q c S G H)(hb:HB h){C E J:Int}(g:h'.get m=some (.cells (Abp D S.g p bl (S.g.D*S.g.Z).toNat C E J) 113))(L:Aw (fun i=>i=m) h h'):
 Asp h' m D p bl ql np q c { S with a:=C,b:=E,u:=J } G H:=by
 have e:=a.Jb.Jb;have k:∀i o,h.get i=some o->(∀l,o≠.cells l 113)->h'.get i=some o:=fun i o B O=>L.at hb B fun y=>by
  subst y;rw[e]at B;cases B;exact O _ rfl
 refine⟨⟨g,k _ _ a.Jb.Ayw (by intros;simp)⟩,⟨a.Gt.pos,k _ _ a.Gt.Gt (by intros;simp),k _ _ a.Gt.row (by intros;simp),fun d hd=>k _ _ (a.Gt.que d hd) (by intros;simp),fun d hd=>k _ _ (a.Gt.chan d hd) (by intros;simp),a.Gt.inj⟩,a.psz,a.drv.chg L fun i T y=>?_,a.apart,a.sub⟩;subst y;exact a.apart.1 T
def vK(disp:Nat->Option FT)(K n:Nat):Prop:=∀T:Jj,T.ev.length<=n->lQ disp K T
theorem UR:∀(l:List Le) (D:Dv) (k:List Le),(kI l D k).ev.length<=l.length
 | [],_,_=>aD _
 | e::r,D,k=>by
  unfold kI;split
  ·exact aD _
  ·have:=UR r (D.Ta e) (k++[e])
   exact Nat.le_succ_of_le this
theorem Jj.Bgx(S:Jj)(i:Int):(S.begin i).ev.length<=S.ev.length:=by
 unfold Jj.begin;split
 ·exact UR _ _ _
 ·exact aD _
theorem Mi.Bh2(S:Mi)(z u:Int):(S.leave z u).1.dr.ev.length<=S.dr.ev.length:=by
 unfold Mi.leave;split
 ·exact aD _
 ·split
  ·exact aD _
  ·exact S.dr.Bgx z
def Mi.close(S:Mi):Mi × Int:=
 (((({ S with a:=-1,b:=-1,u:=0 }:Mi).leave S.a S.u).1.leave S.b S.u).1,if(({ S with a:=-1,b:=-1,u:=0 }:Mi).leave S.a S.u).2=0 then((({ S with a:=-1,b:=-1,u:=0 }:Mi).leave S.a S.u).1.leave S.b S.u).2 else(({ S with a:=-1,b:=-1,u:=0 }:Mi).leave S.a S.u).2)
theorem Ay4(A:Ca disp)(hK:10000<K)(hd:17<=d)(o:vK disp K n)(hn:S.dr.ev.length<=n)(s:Ss h m S H)(hb:HB h)(ha:Vv S.a)(O:Vv S.b):
 Ok (Ag TT disp K d false 143 [.ptr m 0] h) fun v h'=>v=I S.close.2/\Ss h' m S.close.1 (Bg H h h')/\Aw H h h'/\HB h':=by
 obtain⟨e,rfl⟩:=d_ d;rw[Aj0 A a_];obtain⟨lt,D,p,bl,ql,np,q,c,G,a⟩:=s;have ml:=y_ D S.g p bl (S.g.D*S.g.Z).toNat S.a S.b S.u;simp only[JB,Aa,a.Jb.oa,a.Jb.ob,a.Jb.ou];refine Ok.kG a.Jb.Jb hb rfl rfl a_ ?_;intro h1 g1 c1 T
 try simp only[Aa]
 refine Ok.kG g1 T rfl rfl (by rw[bY];omega) ?_;intro h2 g2 c2 U
 try simp only[Aa]
 refine Ok.kG g2 U rfl rfl (by rw[bY,bY];omega) ?_;intro h3 g3 c3 W;rw[show EV.int .i64 (-1)=I (-1)from rfl,show EV.int .i64 0=I 0 from rfl,UQ]at g3;have E:=(c1.trans c2).trans c3;have a3:=a.zB hb g3 E;have cH:Aw H h h3:=E.mono fun i C=>by subst C;exact a.sub.2.1
 have s3:Ss h3 m { S with a:=-1,b:=-1,u:=0 } H:=⟨fun i C=>aL (lt i C) cH.next,D,p,bl,ql,np,q,c,G,a3⟩;unfold Mi.close;refine(UP (K:=K) (S:={ S with a:=-1,b:=-1,u:=0 }) A hK (d:=e) a_ (o S.dr hn) s3 W ha S.u).Al ?_;have B:=Mi.Bh2 { S with a:=-1,b:=-1,u:=0 } S.a S.u;generalize ({ S with a:=-1,b:=-1,u:=0 }:Mi).leave S.a S.u=r at B⊢;rintro _ h4 ⟨rfl,s4,c4,X⟩;refine(UP (K:=K) A hK (d:=e) a_ (o _ (bN B hn)) s4 X O S.u).Al ?_;rintro _ Y ⟨rfl,s5,c5,J⟩;have L:Aw H h h4:=cH.trans c4;have cc:Aw H h Y:=L.then c5 fun i C hl=>by
  rcases C with y|y
  ·exact y
  ·have:=cH.next;omega
 have s6:Ss Y m (r.1.leave S.b S.u).1 (Bg H h Y):=s5.mono (fun i C=>by
  rcases C with(y|y)|y
  ·exact .inl y
  ·have:=cH.next;have:=c5.next;exact .inr ⟨a_,a_⟩
  ·have:=L.next;exact .inr ⟨a_,y.2⟩) (Bg.lt lt cc.next)
 simp only[I,Ac];by_cases h0:r.2=0
 ·rw[aQ h0,aN h0]
  simp only[Aa,Qx];exact .ret ⟨rfl,s6,cc,J⟩
 ·rw[aS h0,aK h0]
  simp only[Aa,Qx];exact .ret ⟨rfl,s6,cc,J⟩
def Mi.dropped(S:Mi)(z:Int):Nat->List Int:=if D4 S.g z<0 then S.ps else upd S.ps (D4 S.g z).toNat (Tf z (S.ps (D4 S.g z).toNat))
def Mi.mark(S:Mi)(z:Int):Mi:={ S with bad:=fun i=>if i=z.toNat then 1 else S.bad i,ps:=S.dropped z }
def Mi.Bq(S:Mi)(z:Int):Mi × Int:=
 if D4 S.g z<0 then(S,13)else if S.Ja z=true then(S,16)else
 if ¬z=S.a/\¬z=S.b then(S.mark z,0)else((S.mark z).close.1,if(S.mark z).close.2=34 then 34 else 0)
theorem Asp.Bsd{p:Nat}{q c:Nat->Nat}(a:Asp h m D p bl ql np q c S G H)(hb:HB h){u:Nat->Int}(g:h'.get bl=some (.cells ((List.range (S.g.D*S.g.Z).toNat).map fun z=>I (u z)) 3))(C:Aw (fun i=>i=bl) h h'):
 Asp h' m D p bl ql np q c { S with bad:=u } G H:=by
 have e:=a.Jb.Ayw;have k:∀i o,h.get i=some o->(∀l,o≠.cells l 3)->h'.get i=some o:=fun i o B E=>C.at hb B fun y=>by
  subst y;rw[e]at B;cases B;exact E _ rfl
 refine⟨⟨k _ _ a.Jb.Jb (by intros;simp),g⟩,⟨a.Gt.pos,k _ _ a.Gt.Gt (by intros;simp),k _ _ a.Gt.row (by intros;simp),fun d hd=>k _ _ (a.Gt.que d hd) (by intros;simp),fun d hd=>k _ _ (a.Gt.chan d hd) (by intros;simp),a.Gt.inj⟩,a.psz,a.drv.chg C fun i J y=>?_,a.apart,a.sub⟩;subst y;exact a.apart.2.1 J
theorem Bg.up{o h2:Ab}(a:h.next<=o.next)(b:o.next<=h2.next)(g:Bg H o h2 i):Bg H h h2 i:=by
 rcases g with y|y
 ·exact .inl y
 ·exact .inr ⟨a_,y.2⟩
theorem An4(A:Ca disp)(hK:10000<K)(hd:18<=d)(L:vK disp K n)(hn:S.dr.ev.length<=n)(s:Ss h m S H)(hb:HB h)(ha:Vv S.a)(ab:Vv S.b){z:Int}(hz:Vv z):
 Ok (Ag TT disp K d false 97 [.ptr m 0,I z] h) fun v h'=>v=I (S.Bq z).2/\Ss h' m (S.Bq z).1 (Bg H h h')/\Aw H h h'/\HB h':=by
 obtain⟨e,rfl⟩:=d_ d;rw[Acy A a_];obtain⟨lt,D,p,bl,ql,np,q,c,G,a⟩:=s;have s:Ss h m S H:=⟨lt,D,p,bl,ql,np,q,c,G,a⟩;have sm:=a.psz.sm;simp only[Vd,Aa,a.Jb.oY];refine(Kb sm z hz h).Al ?_;rintro _ h1 ⟨rfl,O⟩;have o:=O.hb hb;have s1:=s.ext hb O;unfold Mi.Bq;simp only[I,Ac];rcases lU sm z with ae|⟨d0,d1,d2,d3,d4⟩
 ·rw[ae]
  simp only[show(-1:Int)<0 from c_,aB,Aa,bM];exact .ret ⟨rfl,s1.mono (fun _=>.inl) (Bg.lt lt O.next),Ext.to O,o⟩
 ·rw[aS (show ¬D4 S.g z<0 from a_),aK (show ¬D4 S.g z<0 from a_)]
  simp only[Aa];refine(O0 (K:=K) s1 o hz).Al ?_;rintro _ h2 ⟨rfl,x2⟩;have C:=x2.hb o;have E:=O.trans x2;cases au:S.Ja z with
  | true=>
   simp only[Aa,bM];exact .ret ⟨rfl,(s1.ext o x2).mono (fun _=>.inl) (Bg.lt lt E.next),Ext.to E,C⟩
  | false=>
   simp only[Aa,aT,ak,Sa];obtain⟨aw,D,p,bl,ql,np,q,c,G,a⟩:=s1.ext o x2;obtain⟨j,rfl⟩:∃j:Nat,z=j:=⟨z.toNat,a_⟩;have hj:j<(S.g.D*S.g.Z).toNat:=a_
   rw[a.Jb.TJ,Md hj,bI,cD];refine Ok.kG a.Jb.Ayw C rfl rfl (by rw[bT,eh];exact hj) ?_;intro h3 g3 c3 T;have U:((List.range (S.g.D*S.g.Z).toNat).map fun z=>I (S.bad z)).set j (.int .i64 1)=(List.range (S.g.D*S.g.Z).toNat).map fun z=>I ((S.mark j).bad z):=by
    apply eR;intro i;rw[List.getElem?_set,aY,aY,bT,eh];by_cases u:j=i
    ·subst u
     rw[aN rfl,aN hj,cL hj];simp[Mi.mark,I]
    ·rw[aK u]
     rcases dJ i (S.g.D*S.g.Z).toNat with hl|hg
     ·rw[cL hl]
      have:¬i=j:=fun y=>u y.symm
      simp[Mi.mark,this]
     ·rw[cN (by rw[eh];exact hg)];rfl
   rw[U]at g3;have a3:=a.Bsd C g3 c3;have af:Aw H h h3:=(Ext.to E).trans (c3.mono fun i u=>by subst u;exact a.sub.2.2.1)
   try simp only[Aa]
   rw[a3.Jb.Gt];refine(Bqm (K:=K) A a_ a3.Gt T a3.psz (d:=e) a_ j hz).Al ?_;rintro _ h4 ⟨⟨er,rfl⟩,c4,W,P4,Z4⟩;obtain⟨a4,cH⟩:=a3.po T P4 Z4 c4;have a4:Asp h4 m D p bl ql np q c (S.mark j) G H:=a4;have X:Aw H h h4:=af.trans cH;have s4:Ss h4 m (S.mark j) H:=⟨fun i u=>aL (lt i u) X.next,D,p,bl,ql,np,q,c,G,a4⟩
   try simp only[Aa]
   rw[a4.Jb.oa];have close:¬(¬(j:Int)=S.a/\¬(j:Int)=S.b)->Ok (Lg (Ag TT disp K e false) (Ag TT disp K e true) K (.ptr m 0) h4) fun v h'=>v=I (if ¬(j:Int)=S.a/\¬(j:Int)=S.b then(S.mark j,(0:Int))else((S.mark j).close.1,if(S.mark j).close.2=34 then 34 else 0)).2/\Ss h' m (if ¬(j:Int)=S.a/\¬(j:Int)=S.b then(S.mark j,(0:Int))else((S.mark j).close.1,if(S.mark j).close.2=34 then 34 else 0)).1 (Bg H h h')/\Aw H h h'/\HB h':=by
    intro ag;rw[aK ag];simp only[Lg,dr];refine(Ay4 (K:=K) A hK (d:=e) a_ L (S:=S.mark j) hn s4 W ha ab).Al ?_;rintro _ h5 ⟨rfl,s5,c5,Y⟩;have J:=X.trans c5;have s6:=s5.mono (fun i u=>Bg.up X.next c5.next u) (Bg.lt lt J.next);simp only[I,Ac];by_cases B:(S.mark j).close.2=34
    ·rw[aQ B,aN B]
     simp only[Aa];exact .ret ⟨rfl,s6,J,Y⟩
    ·rw[aS B,aK B]
     simp only[Aa,Sc];exact .ret ⟨rfl,s6,J,Y⟩
   simp only[I,Ac]at close⊢;rw[show(S.mark (j:Int)).a=S.a from rfl];by_cases e1:(j:Int)=S.a
   ·rw[show decide (¬(j:Int)=S.a)=false from aS fun y=>y e1]
    simp only[Aa,Ac,Lh];exact close fun y=>y.1 e1
   ·rw[show decide (¬(j:Int)=S.a)=true from aQ e1]
    simp only[Aa,Ac];rw[a4.Jb.ob];simp only[I,Ac,Lh,Aa];rw[show(S.mark (j:Int)).b=S.b from rfl];by_cases e2:(j:Int)=S.b
    ·rw[show decide (¬(j:Int)=S.b)=false from aS fun y=>y e2]
     simp only[Aa];exact close fun y=>y.2 e2
    ·rw[show decide (¬(j:Int)=S.b)=true from aQ e2]
     simp only[Aa];rw[aN ⟨e1,e2⟩];exact .ret ⟨rfl,s4.mono (fun _=>.inl) (Bg.lt lt X.next),X,W⟩
def mD(ps:Nat->List Int)(n:Nat):Option (Int × Int × (Nat->List Int)):=
 if Z9 ps n=0 then none else
 some ((ps (Fq ps (-1) n).toNat).headD 0,(ps (Fq ps (Fq ps (-1) n) n).toNat).headD 0,
  upd (upd ps (Fq ps (-1) n).toNat (ps (Fq ps (-1) n).toNat).tail) (Fq ps (Fq ps (-1) n) n).toNat (ps (Fq ps (Fq ps (-1) n) n).toNat).tail)
def Mi.ready(S:Mi):Mi × Int:=
 if ¬S.a = -1/\S.u<S.g.S then(S,0)else
 if ¬S.dr.flush.2=0 then({ S with dr:=S.dr.flush.1 },S.dr.flush.2)else
 match mD S.ps S.g.D.toNat with
 | none=>({ S with dr:=S.dr.flush.1 },40)
 | some (x,y,o)=>({ S with dr:=S.dr.flush.1,ps:=o,a:=x,b:=y,u:=0 },0)
theorem Ayy(A:Ca disp)(hK:10000<K)(hd:16<=d)(W:vK disp K n)(hn:S.dr.ev.length<=n)(s:Ss h m S H)(hb:HB h):
 Ok (Ag TT disp K d false 159 [.ptr m 0] h) fun v h'=>v=I S.ready.2/\Ss h' m S.ready.1 (Bg H h h')/\Aw H h h'/\HB h':=by
 obtain⟨e,rfl⟩:=d_ d;rw[Ajr A a_];obtain⟨lt,D,p,bl,ql,np,q,c,G,a⟩:=s;have s:Ss h m S H:=⟨lt,D,p,bl,ql,np,q,c,G,a⟩;have ae:=a.psz.nd;subst ae;have es:Et (.ptr m (1+2)) h=fun k=>k (I S.g.S):=by
  funext k;rw[Cy a.Jb.Jb rfl];rfl
 have two:¬(¬S.a = -1/\S.u<S.g.S)->Ok (Qn (Ag TT disp K e false) (Ag TT disp K e true) K (.ptr m 0) h) fun v h'=>v=I S.ready.2/\Ss h' m S.ready.1 (Bg H h h')/\Aw H h h'/\HB h':=by
  intro af;unfold Mi.ready;rw[aK af];simp only[Qn,Aa,a.Jb.C0];refine(BG (K:=K) A a_ (d:=e) a_ (W _ hn) a.drv hb).Al ?_;rintro _ h2 ⟨rfl,d2,c2,B⟩;have J:=a.zA hb d2 c2;have C:Aw H h h2:=c2.mono a.sub.1;have L:=Bg.lt lt C.next
  simp only[I,Ac];by_cases Y:S.dr.flush.2=0
  ·rw[aS (show ¬¬S.dr.flush.2=0 from fun y=>y Y),aK (show ¬¬S.dr.flush.2=0 from fun y=>y Y)]
   simp only[Aa,Yb,J.Jb.Gt];refine(Bo9 (K:=K) J.Gt B J.psz a_).Al ?_;rintro _ h3 ⟨c3,O,hh⟩;rcases hh with⟨p0,rfl,P3⟩|⟨x,y,vx,vy,r,t,hp,f1,f2,hx,hy,a5,e1,e2,rfl,P3,Z3⟩
   ·obtain⟨a3,U⟩:=J.po B P3 J.psz c3
    have cc:Aw H h h3:=C.grow U;have hg:mD S.ps S.g.D.toNat=none:=by unfold mD;rw[aN p0]
    rw[hg];simp only[Aa,I,Ac];simp only[show ¬((15:Int)=0) from c_,aH,aB,Aa];refine .ret ⟨rfl,Ss.mono (H:=Bg H h h2) ⟨fun i o=>aL (L i o) c3.next,D,p,bl,ql,_,q,c,_,a3⟩ (fun i o=>Bg.le c3.next o) (Bg.lt lt cc.next),cc,O⟩
   ·obtain⟨a3,U⟩:=J.po B P3 Z3 c3
    have cc:Aw H h h3:=C.grow U;have hg:mD S.ps S.g.D.toNat=some (vx,vy,upd (upd S.ps x r) y t):=by
     unfold mD;have e1:S.ps x=vx::r:=e1;have e2:S.ps y=vy::t:=e2;have f1:Fq S.ps (-1) S.g.D.toNat=x:=f1;have f2:Fq S.ps x S.g.D.toNat=y:=f2;rw[aK hp,f1,f2];simp only[bJ,e1,e2,List.headD_cons,List.tail_cons]
    rw[hg];simp only[Aa,I,Ac];simp only[aC,aA,Aa,Xi];have ml:=y_ D S.g p bl (S.g.D*S.g.Z).toNat S.a S.b S.u;refine Ok.kG a3.Jb.Jb O rfl rfl (by show 265<(Abp D S.g p bl (S.g.D*S.g.Z).toNat S.a S.b S.u).length;omega) ?_;intro h4 g4 c4 al
    try simp only[Aa]
    refine Ok.kG g4 al rfl rfl (by rw[bY];show 266<(Abp D S.g p bl (S.g.D*S.g.Z).toNat S.a S.b S.u).length;omega) ?_;intro h5 g5 c5 ao
    try simp only[Aa]
    refine Ok.kG g5 ao rfl rfl (by rw[bY,bY];show 267<(Abp D S.g p bl (S.g.D*S.g.Z).toNat S.a S.b S.u).length;omega) ?_;intro h6 g6 c6 aq;have g6:h6.get m=some (.cells ((((Abp D S.g p bl (S.g.D*S.g.Z).toNat S.a S.b S.u).set 265 (I vx)).set 266 (I vy)).set 267 (I 0)) 113):=g6;rw[UQ]at g6;have E:=(c4.trans c5).trans c6;have a6:=a3.zB O g6 E;have X:Aw H h h6:=cc.then (E.mono (T:=fun i=>i=m) fun i o=>o) fun i o _=>by subst o;exact a.sub.2.1
    exact .ret ⟨rfl,Ss.mono (H:=Bg H h h2) ⟨fun i o=>aL (L i o) (bN c3.next E.next),D,p,bl,ql,_,q,c,_,a6⟩ (fun i o=>Bg.le (bN c3.next E.next) o) (Bg.lt lt X.next),X,aq⟩
  ·rw[aQ Y,aN Y]
   simp only[Aa];exact .ret ⟨rfl,⟨L,D,p,bl,ql,_,q,c,_,J⟩,C,B⟩
 have done:¬S.a = -1/\S.u<S.g.S->Ok (some (.int .i64 0,h)) fun v h'=>v=I S.ready.2/\Ss h' m S.ready.1 (Bg H h h')/\Aw H h h'/\HB h':=fun hy=>by
  unfold Mi.ready;rw[aN hy];exact .ret ⟨rfl,s.mono (fun _=>.inl) (Bg.lt lt (aD _)),Aw.refl _,hb⟩
 simp only[LV,Aa,a.Jb.oa,I,Ac];by_cases h1:S.a = -1
 ·rw[aS (show ¬¬S.a = -1 from fun y=>y h1)]
  simp only[Aa,Ll,Ac];exact two fun y=>y.1 h1
 ·rw[aQ h1]
  simp only[Aa,Ac,a.Jb.ou,es,I];by_cases h2:S.u<S.g.S
  ·rw[aQ h2]
   simp only[Ll,Aa];exact done ⟨h1,h2⟩
  ·rw[aS h2]
   simp only[Ll,Aa];exact two fun y=>h2 y.2
theorem vL {x:List EV}(o:x.length=64)(u:y.length=64):(Xr x y).length=64:=by unfold Xr;rw[List.length_zipWith,o,u];rfl
theorem U8.at {x:List EV}(u:U8 x)(o:i<x.length):∃a:Nat,a<256/\x[i]=.int .u8 (Int.ofNat a):=by
 obtain⟨l,B,rfl⟩:=u;rw[Bf]at o;exact⟨l[i],B _ (aZ _),by simp[Bh]⟩
theorem U8.xor {x:List EV}(o:U8 x)(u:U8 y):U8 (Xr x y):=by
 obtain⟨a,B,rfl⟩:=o;obtain⟨b,hb,rfl⟩:=u;refine⟨List.zipWith Nat.xor a b,fun c C=>?_,?_⟩
 ·obtain⟨i,E,rfl⟩:=List.getElem_of_mem C
  rw[List.getElem_zipWith];rw[List.length_zipWith]at E;exact eH (n:=8) (B _ (aZ _)) (hb _ (aZ _))
 ·unfold Xr Bh
  rw[List.zipWith_map,List.map_zipWith];rfl
theorem Bj4{b2:Nat}{x:List EV}(Y:x.length=64)(hy:y.length=64)(ux:U8 x)(uy:U8 y)(l2:h0.next<=b2)(l3:b2<b3)(l4:b3<b4):∀(m i:Nat) (h:Ab) (l:List EV),64-i<m->i<=64->HB h->Ext h0 h ->
 h.get b2=some (.cells l 32)->l.length=64->(∀j,j<64->l[j]? = if j<i then(Xr x y)[j]? else x[j]?)->h.get b3=some (.cells y 32)->h.get b4=some (.cells Vh 32) ->
 Ok (K1 K m (.ptr b2 0) (.ptr b3 0) (.ptr b4 0) (.int .i64 (i:Int)) h) fun v h'=>v=.agg (Xr x y)/\Ext h0 h'/\HB h':=by
 intro m;induction m with
 | zero=>intro i h l hm;omega
 | succ m ih=>
  intro i h l hm hi hb c L u hj O g4;have o:=hb _ _ L;have T:=hb _ _ O;have B:=hb _ _ g4;simp only[K1,Ac];by_cases C:i<64
  ·rw[aQ (show(i:Int)<64 from a_)]
   obtain⟨a,ha,X⟩:=ux.at (i:=i) a_;obtain⟨b,U,eb⟩:=uy.at (i:=i) a_;have e2:l[i]? = some (.int .u8 (Int.ofNat a)):=by rw[hj i C,aK (bU _),aF a_,X]
   have e3:y[i]? = some (.int .u8 (Int.ofNat b)):=by rw[aF a_,eb]
   have ex:(Xr x y)[i]? = some (Nk .u8 (a ^^^ b)):=by
    unfold Xr;rw[List.getElem?_zipWith,aF (show i<x.length from a_),X,e3];rfl
   simp only[Aa,JP,Vo C,bI,cD];rw[I6 o,Ak L rfl e2,I6 T,Ak O rfl e3,T_ ha U,Hc];refine Ok.Z7 L rfl rfl a_ ?_;simp only[JO,Ac];rw[Ci];refine ih (i+1) _ (l.set i (Nk .u8 (a ^^^ b))) a_ a_ (hb.put o _) (c.Ao (.inr l2) o _) (Af _ _ _) (by rw[bY];exact u) (fun j W=>?_) ?_ ?_
   ·rw[List.getElem?_set]
    by_cases E:i=j
    ·subst E;rw[aN rfl,aN a_,aN a_,ex]
    ·rw[aK E,hj j W]
     by_cases J:j<i
     ·rw[aN J,aN a_]
     ·rw[aK J,aK a_]
   ·rw[Ae _];exact O
   ·rw[Ae _];exact g4
  ·have:i=64:=a_
   subst this;have el:l=Xr x y:=by
    refine eR fun j=>?_
    by_cases J:j<64
    ·rw[hj j J,aN J]
    ·rw[cN a_,cN (by rw[vL Y hy];omega)]
   subst el;simp only[show ¬((64:Nat):Int)<64 from a_,aA,Aa,JN];rw[Cv L rfl,Ai u];simp only[Aa];refine Ok.st (Xr x y) g4 rfl (by show Fw (Xr x y)=64;rw[Be,u]) (Bl (by rw[K4];exact u.symm)) ?_;rw[Rb (Af _ _ _) kr.1 kr.2 u];exact .ret ⟨rfl,c.Ao (.inr a_) B _,hb.put B _⟩
theorem US{x:List EV}(o:x.length=64)(B:y.length=64)(C:U8 x)(E:U8 y)(hb:HB h)(hK:100<K):
 Ok (Pq K (.agg x) (.agg y) h) fun v h'=>v=.agg (Xr x y)/\Ext h h'/\HB h':=by
 simp only[Pq,Aa];have u:Ext h (((h.new (.cells x 32)).new (.cells y 32)).new (.cells (List.replicate 64 (.int .u8 0)) 32)):=((Aw.new _ _).Da _).Da _;refine Bj4 (h0:=h) (x:=x) (y:=y) o B C E (b2:=h.next) (b3:=h.next+1) (b4:=h.next+2) (aD _) a_ a_ K 0 _ x a_ a_ (u.hb hb) u ?_ o (fun j _=>by rw[aK (cT _)]) ?_ (Ad _ _)
 ·rw[Az _ (by show h.next<h.next+1+1;omega),Az _ (by show h.next<h.next+1;omega)];exact Ad _ _
 ·rw[Az _ (by show h.next+1<h.next+1+1;omega)];exact Ad _ _
theorem Bho(A:Ca disp){e:Nat}(he:2<=e){x p:List EV}(U:h.get b=some (.cells p 32))(E:x.length=64)(J:p.length=64)(W:U8 x)(up:U8 p)(hb:HB h)(hK:100<K):
 Ok (P0 (Ag TT disp K e false) (Ag TT disp K e true) (.func 212 [] [.ptr b 0]) [.agg x] h) fun v h'=>v=.agg (Xr x p)/\Ext h h'/\HB h':=by
 obtain⟨d,rfl⟩:=d_ e;show Ok (Ag TT disp K (d+1) false 212 [.agg x,.ptr b 0] h) _;rw[Akg A a_];simp only[JQ,Aa];have C:Ext h ((h.new (.cells x 32)).new (.cells (List.replicate 64 (.int .u8 0)) 32)):=(Aw.new _ _).Da _;have O:((h.new (.cells x 32)).new (.cells (List.replicate 64 (.int .u8 0)) 32)).get h.next=some (.cells x 32):=by
  rw[Az _ (by show h.next<h.next+1;omega)];exact Ad _ _
 have u:((h.new (.cells x 32)).new (.cells (List.replicate 64 (.int .u8 0)) 32)).get (h.next+1)=some (.cells Vh 32):=Ad _ _;rw[show(h.new (.cells x 32)).next=h.next+1 from rfl];generalize (h.new (.cells x 32)).new (.cells (List.replicate 64 (.int .u8 0)) 32)=Y at C O u⊢;have B:=C.hb hb;have X:=C.at hb U;rw[Cv O rfl,Ai E];simp only[Aa];rw[Cv X rfl,Ai J];simp only[Aa];refine(US (K:=K) E J W up B hK).Al ?_;rintro _ h2 ⟨rfl,T,o⟩;have u:=T.at B u;have L:=vL E J;refine Ok.st (Xr x p) u rfl (by show Fw (Xr x p)=64;rw[Be,L]) (Bl (by rw[K4];exact L.symm)) ?_;rw[Rb (Af _ _ _) kr.1 kr.2 L];exact .ret ⟨rfl,(C.trans T).Ao (.inr a_) (o _ _ u) _,o.put (o _ _ u) _⟩
theorem UT:∀(l vs:List EV),vs.length<=l.length->J0 l vs=some (vs++l.drop vs.length)
 | l,[],_=>by cases l<;>rfl
 | [],_::_,h=>by simp at h
 | a::l,v::vs,h=>by
  show(match J0 l vs with|some x=>some (v::x)|none=>none)=_;rw[UT l vs (by simpa using h)];rfl
theorem UU:∀(l:List EV) (off:Nat) (vs:List EV),off+vs.length<=l.length->Fx l off vs=some (l.take off++vs++l.drop (off+vs.length))
 | [],off,vs,h=>by
  have h0:off=0/\vs = []:=by simp at h;exact⟨h.1,h.2⟩
  obtain⟨rfl,rfl⟩:=h0;rfl
 | a::l,0,vs,h=>by
  show J0 (a::l) vs=_;rw[UT _ _ a_];simp
 | a::l,off+1,vs,h=>by
  show(match Fx l off vs with|some x=>some (a::x)|none=>none)=_;rw[UU l off vs (by simp at h;omega)];simp only[fY,List.cons_append];rw[show off+1+vs.length=(off+vs.length)+1 from a_,List.drop_succ_cons]
theorem s_ {l vs:List EV}(h:off+vs.length<=l.length):Nl l off vs=some (l.take off++vs++l.drop (off+vs.length)):=by rw[Vg,UU _ _ _ h]
theorem qi:∀(l:List (List EV)),(∀x∈l,x.length=n)->l.flatten.length=l.length*n
 | [],_=>by simp
 | a::l,hw=>by
  rw[cJ,aE,qi l fun x o=>hw x (aV _ o),hw a (aW ..),bP,fW];omega
theorem vn{l:List (List EV)}(hw:∀x∈l,x.length=n)(hj:j<l.length):l.flatten=(l.take j).flatten++l[j]++(l.drop (j+1)).flatten/\(l.take j).flatten.length=j*n/\l[j].length=n:=by
 refine⟨?_,?_,hw _ (aZ _)⟩
 ·have:l=l.take j++l[j]::l.drop (j+1):=by rw[<-cv hj,List.take_append_drop]
  conv=>lhs;rw[this]
  rw[cm,cJ,bQ]
 ·rw[qi (n:=n) _ fun x o=>hw x (bS o),bH,eB a_]
theorem HK{l:List (List EV)}(hw:∀x∈l,x.length=n)(hj:j<l.length):Ke l.flatten (j*n) n=some l[j]:=by
 obtain⟨e,o,h2⟩:=vn hw hj;rw[e,E4 (by rw[aE,aE,o,h2];omega),<-o,bQ,dN,<-h2,dQ]
theorem zP{l:List (List EV)}(hw:∀x∈l,x.length=n)(hj:j<l.length){v:List EV}(u:v.length=n):Nl l.flatten (j*n) v=some (l.set j v).flatten:=by
 obtain⟨e,o,h2⟩:=vn hw hj;have e2:(l.set j v).flatten=(l.take j).flatten++v++(l.drop (j+1)).flatten:=by
  rw[List.set_eq_take_append_cons_drop,aN hj,cm,cJ,bQ]
 have B:l.flatten.length=j*n+n+(l.drop (j+1)).flatten.length:=by rw[e,aE,aE,o,h2]
 have t1:l.flatten.take (j*n)=(l.take j).flatten:=by rw[e,bQ,<-o,dQ]
 have t2:l.flatten.drop (j*n+n)=(l.drop (j+1)).flatten:=by
  rw[show j*n+n=((l.take j).flatten++l[j]).length by rw[aE,o,h2],e,dN]
 rw[s_ (by rw[B,u];omega),u,t1,t2,e2]
def Zn.change(Z:Zn)(off:Int)(p:List EV):Zn:=if 0<=off/\off<Z.l.length then { Z with l:=Z.l.set off.toNat (Xr (((Z.l[off.toNat]?).getD Vh)) p) }else Z
theorem Zn.Wf.change{size:Nat}(w:Z.Wf size)(off:Int){p:List EV}(u:U8 p):(Z.change off p).Wf size:=by
 unfold Zn.change;split
 ·refine⟨fun x o=>?_,w.st,by simp only[bY];exact w.safe,by simp only[bY];exact w.len,by simp only[bY];exact w.room⟩
  rcases dO o with o|o
  ·exact w.u8 x o
  ·rw[o]
   refine U8.xor ?_ u;cases B:Z.l[off.toNat]? with
   | none=>exact U8.zs
   | some y=>exact w.u8 _ (dR B)
 ·exact w
theorem A0k(A:Ca disp){e:Nat}(he:2<=e){z q size:Nat}(C:Fk h z q size Z)(w:Z.Wf size)(hs:size<=64)(hb:HB h)(off:Int){p:List EV}(hg:h.get b=some (.cells p 32))(X:p.length=64)(up:U8 p)(hK:100<K):
 Ok (Kc (Ag TT disp K e false) (Ag TT disp K e true) K (.ptr z 0) (I off) (.func 212 [] [.ptr b 0]) h) fun v h'=>v=I (if 0<=off/\off<Z.l.length then 0 else 31)/\Fk h' z q size (Z.change off p)/\Aw (fun j=>Z.l≠[]/\j=q) h h'/\HB h':=by
 obtain⟨s,g,r⟩:=C.Am;have Y:=hb _ _ g;have no:¬(0<=off/\off<Z.l.length)->Ok (some (I 31,h)) fun v h'=>v=I (if 0<=off/\off<Z.l.length then 0 else 31)/\Fk h' z q size (Z.change off p)/\Aw (fun j=>Z.l≠[]/\j=q) h h'/\HB h':=fun hn=>by
  unfold Zn.change;rw[aK hn,aK hn];exact .ret ⟨rfl,C,Aw.refl _,hb⟩
 simp only[Kc,I,Ac];by_cases h0:off<0
 ·rw[aQ h0]
  simp only[Aa,Ac,Fs];exact no fun y=>a_
 ·rw[aS h0]
  simp only[Aa,Ac,Cy g rfl,r.Fz];by_cases W:(Z.l.length:Int)<=off
  ·rw[aQ W]
   simp only[Aa,Fs];exact no fun y=>a_
  ·rw[aS W]
   obtain⟨j,rfl⟩:∃j:Nat,off=j:=⟨off.toNat,a_⟩;have hj:j<Z.l.length:=a_
   have O:=r.block a_;have lq:=hb _ _ O;have u:(0:Int)<=(j:Int)/\(j:Int)<Z.l.length:=a_
   unfold Zn.change;rw[aN u,aN u,bJ,aF hj,Option.getD_some];obtain⟨_,B⟩:=(vn C.wf hj).2;simp only[Aa,Fs,Ou,Ar];rw[I6 Y,Cy g rfl];simp only[Aa,Ar];rw[I6 Y,Cy g rfl];simp only[Aa,Ar,r.ix hj];rw[I6 lq,Cd O rfl (HK C.wf hj)];simp only[Ar];refine Ok.bE (Bho (K:=K) A he (h:=h.lift) (by rw[Bv];exact hg) B X (w.u8 _ (aZ _)) up (Cz hb) hK) (fun _ _ p=>p.2.1) ?_;rintro _ W h2 ⟨rfl,_,ad⟩ sm T;have E:=T.hb hb;have J:=T.at hb O;have U:=vL B X;rw[Hc,Bpl (v:=.agg (Xr Z.l[j] p)) J rfl (by show Fw (Xr Z.l[j] p)=64;rw[Be,U]) (zP C.wf hj U)];have L:=E _ _ J;refine .ret ⟨rfl,⟨⟨s,?_,?_⟩,fun x o=>?_⟩,(Ext.to T).Ao (.inl ⟨fun y=>by rw[y]at hj;simp at hj,rfl⟩) L _,E.put L _⟩
   ·rw[Ae _ (Av O g (by simp))];exact T.at hb g
   ·refine .inr ⟨by rw[bY];omega,by rw[bY];exact r.slice a_,Af _ _ _,?_⟩
    rw[qi (n:=64),bY];intro x o;rcases dO o with o|o
    ·exact C.wf x o
    ·rw[o];exact U
   ·rcases dO o with o|o
    ·exact C.wf x o
    ·rw[o];exact U
theorem A5b(A:Ca disp)(hd:4<=d){D:Dv}(s:Hv h V D F)(hb:HB h)(hK:100<K)(z off:Int){p:List EV}(L:p.length=64)(up:U8 p):
 Ok (Ag TT disp K d false 198 [.ptr V 0,I z,I off,.agg p] h) fun v h'=>(∃n:Int,v=I n/\(n=0↔D.has z=true/\0<=off/\off<(D.zs z.toNat).l.length))/\Hv h' V (D.mG z off p) (Bg F h h')/\Aw F h h'/\HB h':=by
 obtain⟨e,rfl⟩:=d_ d;rw[Ani A a_];simp only[JM,Aa];have u:Ext h (h.new (.cells p 32)):=Aw.new _ _;have J:(h.new (.cells p 32)).get h.next=some (.cells p 32):=Ad _ _
 have o:HB (h.new (.cells p 32)):=hb.new _;have s1:=s.ext u;generalize h.new (.cells p 32)=W at u J o s1⊢;rw[sD s1];unfold Dv.mG;cases O:D.has z with
 | false=>
  simp only[Aa,aT,gP,ak];exact .ret ⟨⟨13,rfl,by simp⟩,s1.grow s.lt u.next,Ext.to u,o⟩
 | true=>
  have X:=cX O;obtain⟨j,rfl⟩:∃j:Nat,z=j:=⟨z.toNat,a_⟩;have hj:j<D.n:=a_
  obtain⟨w,wl,zl,Y,q,a,b⟩:=s1;have w':=w.zs j hj;simp only[Aa,JL,a.list,a.qj hj,bJ,gQ];obtain⟨f,rfl⟩:=d_ e;rw[Xe A a_];refine(A0k (K:=K) (e:=f) A a_ (a.Am j hj) w' w.size o off J L up hK).Al ?_;rintro _ h2 ⟨rfl,T,c2,B⟩;obtain⟨d3,C⟩:=Hv.Am w a b wl o hj (w'.change off up) T (c2.mono fun _=>.inr) B (fun y=>.inr ⟨rfl,fun e=>y (by unfold Zn.change;split<;>simp[e])⟩);refine .ret ⟨⟨_,rfl,by split<;>simp_all⟩,?_,(Ext.to u).trans C,B⟩;have d4:Hv h2 V (D.set j ((D.zs j).change off p)) (Bg F h h2):=d3.mono (fun i U=>by
   rcases U with y|y
   ·exact .inl y
   ·exact .inr ⟨bN u.next y.1,y.2⟩) (Bg.lt s.lt (bN u.next C.next))
  unfold Zn.change at d4;split
  next E=>
   rw[aN E]at d4;exact d4
  next E=>
   rw[aK E]at d4;have e:D.set j (D.zs j)=D:=by
    unfold Dv.set;have:Wm D.zs j (D.zs j)=D.zs:=by funext i;unfold Wm;split<;>simp_all
    rw[this]
   rw[e]at d4;exact d4
theorem Le.len {e:Le}(w:e.Wf):e.cells.length=68:=by unfold Le.cells;rw[aE,w.len];rfl
theorem Le.UW {e:Le}(w:e.Wf):Ke e.cells 4 64=some e.pat:=by
 rw[E4 (by rw[Le.len w];omega)];show some ((e.pat).take 64)=_;rw[bK (by rw[w.len];omega)]
theorem Le.one(e:Le):e.cells[0]? = some (I e.Ly)/\e.cells[1]? = some (I e.kind)/\e.cells[2]? = some (I e.Am)/\e.cells[3]? = some (I e.off):=⟨rfl,rfl,rfl,rfl⟩
theorem Fo.call {o h4:Ab}{M qc qh:Nat}{cs hs:EV}{S:Jj}{dv:Dv}(s:Fo h D S G)(a:Agm h D V M qc qh cs hs ms S F G)(hb:HB h)(d3:Hv o V dv (Bg F h.lift o))(sm:iG o h4)(c4:Aw F h h4):
 Fo h4 D { S with dv:=dv } (Bg G h h4)/\Aw G h h4/\Agm h4 D V M qc qh cs hs ms { S with dv:=dv } (Bg F h h4) (Bg G h h4):=by
 have d4:Hv h4 V dv (Bg F h h4):=by
  have:=d3.frame (h':=h4) (by rw[sm.next];exact aD _) fun j _=>sm.get j
  refine this.mono (fun j hj=>?_) (Bg.lt a.dev.lt c4.next);rcases hj with y|y
  ·exact .inl y
  ·exact .inr ⟨y.1,by rw[sm.next];exact y.2⟩
 have:=s.put a hb d4 c4;exact⟨this.1,this.2,a.put hb d4 c4⟩
theorem A6t(A:Ca disp)(hK:1000<K)(hd:6<=d){S:Jj}(s:Fo h D S G)(hb:HB h){e:Le}(w:e.Wf):
 Ok (Ag TT disp K d false 169 [.ptr D 0,.agg e.cells] h) fun v h'=>Fo h' D { S with dv:=S.dv.mG e.Am e.off e.pat } (Bg G h h')/\Aw G h h'/\HB h':=by
 obtain⟨dd,rfl⟩:=d_ d;rw[Apa A a_];simp only[KY,Aa];have x1:Ext h (h.new (.cells e.cells 34)):=Aw.new _ _;have C:(h.new (.cells e.cells 34)).get h.next=some (.cells e.cells 34):=Ad _ _
 have J:HB (h.new (.cells e.cells 34)):=hb.new _;have s1:=s.ext x1;have n1:(h.new (.cells e.cells 34)).next=h.next+1:=rfl
 generalize h.new (.cells e.cells 34)=h1 at x1 C J s1 n1⊢;have nx:¬G h.next:=fun y=>bU _ (s.lt _ y)
 obtain⟨V,M,qc,qh,cs,hs,ms,F,a⟩:=s1.Ly;have lD:=J _ _ a.C0;have l3:=J _ _ C;obtain⟨_,_,e2,e3⟩:=e.one;rw[I6 lD,Cy a.C0 rfl]
 try simp only[Aa,Ar]
 rw[I6 l3,Ak C rfl e2]
 try simp only[Aa,Ar]
 rw[I6 l3,Ak C rfl e3]
 try simp only[Aa,Ar]
 rw[I6 l3,Cd C rfl (Le.UW w)]
 try simp only[Aa,Ar]
 refine Ok.bC (S:=F) (A5b (K:=K) A a_ a.dev.lift (Cz J) a_ e.Am e.off w.len w.u8) (fun _ _ p=>p.2.2.1) ?_;rintro _ h3 h4 s' ⟨⟨n,rfl,_⟩,d3,_,au⟩ sm c4 _;obtain⟨s4,ab,a4⟩:=s1.call a J d3 sm c4;have U:=sm.hb au;have C:=ab.at J C nx;have fin:∀(u:Ab) (G5:Nat->Prop),Fo u D { S with dv:=S.dv.mG e.Am e.off e.pat } G5->(∀i,G5 i->Bg G h u i)->Aw (Bg G h1 h4) h4 u->HB u->Ok (some (.tuple [],u)) fun v h'=>Fo h' D { S with dv:=S.dv.mG e.Am e.off e.pat } (Bg G h h')/\Aw G h h'/\HB h':=fun u G5 s5 g5 c5 B=>by
  have cc:Aw G h u:=((Ext.to x1).trans ab).then c5 fun j hj hl=>by
   rcases hj with y|y
   ·exact y
   ·omega
  exact .ret ⟨s5.mono g5 (Bg.lt s.lt cc.next),cc,B⟩
 have gr:∀u:Ab,h4.next<=u.next->∀i,Bg G h1 h4 i->Bg G h u i:=fun u l i O=>by
  rcases O with y|y
  ·exact .inl y
  ·exact .inr ⟨a_,a_⟩
 simp only[Ac,I];by_cases hn:n=0
 ·subst hn
  simp only[aC,aA,Aa,KX];rw[Ak C rfl e2]
  try simp only[Aa]
  rw[Ak C rfl e3];rw[Ax (l:=[I e.Am,I e.off]) rfl]
  try simp only[Aa]
  have L:Ext h4 (h4.new (.cells [I 0,I 0] 239)):=Aw.new _ _;have b6:(h4.new (.cells [I 0,I 0] 239)).get h4.next=some (.cells [I 0,I 0] 239):=Ad _ _
  refine Ok.st [I e.Am,I e.off] (o:=0) (l:=[I 0,I 0]) (Ad _ _) rfl rfl rfl ?_;have L:Ext h4 ((h4.new (.cells [I 0,I 0] 239)).put h4.next (.cells [I e.Am,I e.off] 239)):=(Aw.new h4 _:Ext _ _).Ao (.inr (aD _)) (aO _) _;have g4:((h4.new (.cells [I 0,I 0] 239)).put h4.next (.cells [I e.Am,I e.off] 239)).get h4.next=some (.cells [I e.Am,I e.off] 239):=Af _ _ _
  have n5:((h4.new (.cells [I 0,I 0] 239)).put h4.next (.cells [I e.Am,I e.off] 239)).next=h4.next+1:=rfl
  simp only[I]at L g4 n5⊢;generalize (h4.new (.cells [EV.int .i64 0,.int .i64 0] 239)).put h4.next (.cells [.int .i64 e.Am,.int .i64 e.off] 239)=u at L g4 n5⊢
  have B:=L.hb U;have s5:=s4.ext L;have C:=L.at U C;have a5:=a4.frame L.next fun i O=>L.get i (s4.lt i O) id
  have ay:=B _ _ a5.C0;have az:=B _ _ g4;have b8:=B _ _ C;rw[I6 ay,Cy a5.C0 rfl]
  try simp only[Aa,Ar]
  rw[I6 az,Cd g4 rfl (Ai (n:=2) rfl)]
  try simp only[Aa,Ar]
  obtain⟨p,k,el,up,lp⟩:=Biv (h:=u.lift) (by rw[Bv];exact a5.map) a5.marks e.Am e.off;simp only[kp,I]at el;rw[lS el]
  try simp only[Aa,Ar]
  have T:Ext u ((u.new (.cells (List.replicate 64 (EV.int .u8 0)++[EV.int .i64 0]) 254)).put u.next (.cells (p++[I k]) 254)):=(Aw.new u _:Ext _ _).Ao (.inr (aD _)) (aO _) _;have Y:((u.new (.cells (List.replicate 64 (EV.int .u8 0)++[EV.int .i64 0]) 254)).put u.next (.cells (p++[I k]) 254)).get u.next=some (.cells (p++[I k]) 254):=Af _ _ _
  rw[Hc];refine Ok.st (p++[I k]) (Ad _ _) rfl (by show Fw (p++[I k])=65;rw[Be,aE,lp];rfl) (Bl (by rw[aE,bW];show _=(p++[I k]).length;rw[aE,lp];rfl)) ?_;generalize (u.new (.cells (List.replicate 64 (EV.int .u8 0)++[EV.int .i64 0]) 254)).put u.next (.cells (p++[I k]) 254)=h6 at T Y⊢
  have E:=T.hb B;have s6:=s5.ext T;have C:=T.at B C;have g4:=T.at B g4;have a6:=a5.frame T.next fun i O=>T.get i (s5.lt i O) id
  have a2:=E _ _ a6.C0;have a8:=E _ _ g4;have ba:=E _ _ C;have ae:=E _ _ Y
  try simp only[Aa,Ar]
  rw[I6 a2,Cy a6.C0 rfl]
  try simp only[Aa,Ar]
  rw[I6 a8,Cd g4 rfl (Ai (n:=2) rfl)]
  try simp only[Aa,Ar]
  rw[I6 ae,Cd Y rfl (l':=p) (by rw[E4 (by rw[aE,lp];show 0+64<=64+1;omega),dK,<-lp,dQ])]
  try simp only[Aa,Ar]
  rw[I6 ba,Cd C rfl (Le.UW w)]
  try simp only[Aa,Ar]
  refine Ok.bE (US (K:=K) lp w.len up w.u8 (Cz E) a_) (fun _ _ p=>p.2.1) ?_;rintro _ ca h7 ⟨rfl,_,_⟩ cb W;have X:=W.hb E;have s7:=s6.ext W;have a7:=a6.frame W.next fun i O=>W.get i (s6.lt i O) id
  have Y:=W.at E Y
  try simp only[Aa,Ar]
  rw[I6 ae,Ak Y rfl (v:=I k) (by rw[bm a_,lp];rfl)];simp only[Aa,Ar,I,Ac];have xl:=vL lp w.len;rw[Ax (l:=Xr p e.pat++[I (Cs .i64 (k+1))]) (by
   show iT (Df [(0,64),(64,1)]) [(0,.agg (Xr p e.pat)),(1,.int .i64 (Cs .i64 (k+1)))] (List.replicate 64 (.int .u8 0)++[.int .i64 0])=_;have e1:Nl (List.replicate 64 (EV.int .u8 0)++[EV.int .i64 0]) 0 (Xr p e.pat)=some (Xr p e.pat++[EV.int .i64 0]):=by
    rw[s_ (by rw[aE,xl,bW];show 0+64<=64+1;omega),xl];rfl
   have e2:Nl (Xr p e.pat++[EV.int .i64 0]) 64 [EV.int .i64 (Cs .i64 (k+1))]=some (Xr p e.pat++[I (Cs .i64 (k+1))]):=by
    rw[s_ (by rw[aE,xl];show 64+1<=64+1;omega),<-xl,dQ,dG (by rw[aE];exact aD _),cW]
   show Bb (Nat.beq (Fw (Xr p e.pat)) 64) (oB (fun z=>iT (Df [(0,64),(64,1)]) [(1,.int .i64 (Cs .i64 (k+1)))] z) (Nl (List.replicate 64 (EV.int .u8 0)++[EV.int .i64 0]) 0 (Xr p e.pat))) none=_;rw[Be,xl,cP,Aj,e1];show oB (fun z=>some z) (Nl (Xr p e.pat++[EV.int .i64 0]) 64 [EV.int .i64 (Cs .i64 (k+1))])=_;rw[e2];rfl)]
  obtain⟨ag,eu,bb⟩:=A6v (h:=h7.lift) (M:=M) (ms:=ms) (by rw[Bv];exact a7.map) a7.marks e.Am e.off (p:=Xr p e.pat) (n:=Cs .i64 (k+1)) (up.xor w.u8) xl;simp only[kp,I]at eu;have lM:=X _ _ a7.map;refine Ok.bC (S:=fun i=>i=M) (P:=fun v h'=>v=.tuple []/\h'=h7.lift.put M (.map ag)) ⟨_,_,eu,rfl,rfl⟩ (fun _ _ p=>by rw[p.2];exact(Aw.refl (S:=fun i=>i=M) _).Ao (.inl rfl) (h:=h7.lift) lM _) ?_;rintro _ _ h9 ct ⟨rfl,rfl⟩ ai c9 _;obtain⟨s8,c8,cx⟩:=s7.sL a7 X bb;have e9:∀i,h9.get i=(h7.put M (.map ag)).get i:=fun i=>by
   rw[ai.get,Ab.get_put,Ab.get_put,Bv]
  have n9:h9.next=h7.next:=ai.next
  have s9:=s8.frame (h':=h9) (by rw[n9];exact aD _) fun i _=>e9 i
  refine fin h9 _ s9 (gr h9 (by have:=L.next;have:=T.next;have:=W.next;omega)) ?_ (c9.hb X);refine((Ext.to L).trans ((Ext.to T).trans (Ext.to W))).then c9 fun i O _=>?_
  subst O;exact a4.sub.2.2.1
 ·simp only[hn,aH,aB,Aa]
  exact fin h4 _ s4 (gr h4 (aD _)) (Aw.refl _) U
theorem Agm.own{M qc qh o u:Nat}{cs hs B C:EV}{S:Jj}(a:Agm h D V M qc qh cs hs ms S F G)(hb:HB h){Qc:List Le}
 (g:h'.get D=some (.cells [.ptr V 0,B,C,.map M] 118)) (rc:Bu h' B o 34 68 ev.length (ev.map Le.cells).flatten) (U:Bu h' C u 34 68 Qc.length (Qc.map Le.cells).flatten)
 (n:h.next<=h'.next) (k:∀i,i<h.next->i≠D->(0<S.ev.length->i≠qc)->(0<S.Qc.length->i≠qh)->h'.get i=h.get i) (sz:∀i,G i->i<h.next)
 (O:0<ev.length->h.next<=o/\o<h'.next\/o=qc/\0<S.ev.length) (T:0<Qc.length->h.next<=u/\u<h'.next\/u=qh/\0<S.Qc.length) (ne:0<ev.length->0<Qc.length->o≠u) :
 Agm h' D V M o u B C ms ⟨S.dv,ev,Qc⟩ F (Bg G h h'):=by
 obtain⟨b1,b2,b3,b4,W⟩:=a.sub;obtain⟨c1,c2,c3,c4,c5⟩:=a.apart;have X:=hb _ _ a.map;have Y:h'.get M=h.get M:=k _ X (Av a.map a.C0 (by simp)) (fun y=>Av a.map (a.Fl.block y) (by simp)) (fun y=>Av a.map (a.Ap6.block y) (by simp));refine⟨g,by rw[Y];exact a.map,a.marks,rc,U,a.dev.frame n fun i E=>k i (sz i (b1 i E)) (fun y=>c1 (y▸E)) (fun y z=>c3 y (z▸E)) (fun y z=>c4 y (z▸E)),⟨fun i E=>.inl (b1 i E),.inl b2,.inl b3,fun y=>?_,fun y=>?_⟩,⟨c1,c2,fun y z=>?_,fun y z=>?_,ne⟩⟩
 ·rcases O y with z|⟨z,J⟩
  ·exact .inr z
  ·rw[z];exact .inl (b4 J)
 ·rcases T y with z|⟨z,J⟩
  ·exact .inr z
  ·rw[z];exact .inl (W J)
 ·rcases O y with x|⟨x,L⟩
  ·have:=sz _ (b1 _ z);omega
  ·rw[x]at z;exact c3 L z
 ·rcases T y with x|⟨x,L⟩
  ·have:=sz _ (b1 _ z);omega
  ·rw[x]at z;exact c4 L z
theorem Bhf(A:Ca disp)(hK:1000<K)(hd:7<=d){S:Jj}(s:Fo h D S G)(hb:HB h){e:Le}(w:e.Wf)(hn:S.ev.length+S.Qc.length<200):
 Ok (Ag TT disp K d false 133 [.ptr D 0,.agg e.cells] h) fun v h'=>Fo h' D { S with dv:=S.dv.Ta e,Qc:=S.Qc++[e] } (Bg G h h')/\Aw G h h'/\HB h':=by
 obtain⟨dd,rfl⟩:=d_ d;rw[Anu A a_];simp only[LO,Aa];have x1:Ext h (h.new (.cells e.cells 34)):=Aw.new _ _;have B:(h.new (.cells e.cells 34)).get h.next=some (.cells e.cells 34):=Ad _ _
 have O:HB (h.new (.cells e.cells 34)):=hb.new _;have s1:=s.ext x1;have n1:(h.new (.cells e.cells 34)).next=h.next+1:=rfl
 generalize h.new (.cells e.cells 34)=h1 at x1 B O s1 n1⊢;have nx:¬G h.next:=fun y=>bU _ (s.lt _ y)
 obtain⟨V,M,qc,qh,cs,hs,ms,F,a⟩:=s1.Ly;have lD:=O _ _ a.C0;have l3:=O _ _ B;have el:=Le.len w;rw[I6 lD,Cy a.C0 rfl]
 try simp only[Aa,Ar]
 rw[I6 l3,Cd B rfl (Ai el)]
 try simp only[Aa,Ar]
 rw[Wq (v:=.agg e.cells) (z:=List.replicate 4 (EV.int .i64 0)++List.replicate 64 (EV.int .u8 0)) rfl (by simp) el,Aq];obtain⟨h2,e_,x2,gx,n2⟩:=nW h1 (.cells (EV.cells (.agg e.cells)) 34);rw[e_];have C:=x2.hb O;have B:=x2.at O B;have s2:=s1.ext x2;have J:=a.frame x2.next fun i X=>x2.get i (s1.lt i X) id
 have r2:Bu h2.lift hs qh 34 68 S.Qc.length (S.Qc.map Le.cells).flatten:=J.Ap6.frame fun _=>Bv _ _
 obtain⟨h3,e3,r3,n3,c3⟩:=pD (x:=.slice h1.next 0 1 1 false) (n:=1) r2 rfl a_ a_ a_ (Yx (b:=h1.next) (by rw[Bv];exact gx) el) (by rw[el]);refine Ok.bC (S:=fun i=>0<S.Qc.length/\i=qh) (P:=fun v h'=>v=.slice h2.lift.next 0 (S.Qc.length+1) (S.Qc.length+1) true/\h'=h3) ⟨_,_,e3,rfl,rfl⟩ (fun _ _ p=>by rw[p.2];exact c3) ?_;rintro _ _ h4 s' ⟨rfl,rfl⟩ sm x4 bf;have Y:=x4.hb C;rw[rh]at r3 n3;rw[rh];have bj:¬(0<S.Qc.length/\D=qh):=fun y=>Av J.C0 (J.Ap6.block y.1) (by simp) y.2
 have gD:h4.get D=some (.cells [.ptr V 0,cs,hs,.map M] 118):=Aw.at x4 C J.C0 bj;have r4:Bu h4 (.slice h2.next 0 (S.Qc.length+1) (S.Qc.length+1) true) h2.next 34 68 (S.Qc.length+1) ((S.Qc.map Le.cells).flatten++e.cells):=r3.frame fun _=>sm.get _
 have B:h4.get h.next=some (.cells e.cells 34):=Aw.at x4 C B fun y=>by
  have:=J.Ap6.block y.1;exact Av B this (by simp) y.2
 have ab:=Y _ _ gD
 try simp only[Aa]
 rw[Hc (by rcases bf with rfl|⟨w,rfl,_⟩<;>kernel_rfl)];refine Ok.Z7 gD rfl rfl (by show 2<4;decide) ?_;simp only[List.set];have bk:=Y _ _ B;have ao:h2.next<h4.next:=by
  have:=r4.block a_;exact Y _ _ this
 have T:(h4.put D (.cells [EV.ptr V 0,cs,.slice h2.next 0 (S.Qc.length+1) (S.Qc.length+1) true,.map M] 118)).get D=some (.cells [EV.ptr V 0,cs,.slice h2.next 0 (S.Qc.length+1) (S.Qc.length+1) true,.map M] 118):=Af _ _ _;have k5:∀i,i≠D->(h4.put D (.cells [EV.ptr V 0,cs,.slice h2.next 0 (S.Qc.length+1) (S.Qc.length+1) true,.map M] 118)).get i=h4.get i:=fun i X=>Ae _ (cn X)
 have n5:(h4.put D (.cells [EV.ptr V 0,cs,.slice h2.next 0 (S.Qc.length+1) (S.Qc.length+1) true,.map M] 118)).next=h4.next:=rfl
 have E:HB (h4.put D (.cells [EV.ptr V 0,cs,.slice h2.next 0 (S.Qc.length+1) (S.Qc.length+1) true,.map M] 118)):=Y.put ab _;have c5:Aw (Bg G h1 h2) h2 (h4.put D (.cells [EV.ptr V 0,cs,.slice h2.next 0 (S.Qc.length+1) (S.Qc.length+1) true,.map M] 118)):=(x4.mono (fun i X=>.inl (by rw[X.2];exact J.sub.2.2.2.2 X.1))).Ao (.inl (.inl a.sub.2.1)) ab _;generalize h4.put D (.cells [EV.ptr V 0,cs,.slice h2.next 0 (S.Qc.length+1) (S.Qc.length+1) true,.map M] 118)=o at T k5 n5 E c5⊢;have au:h.next≠D:=fun y=>nx (y▸a.sub.2.1)
 have B:o.get h.next=some (.cells e.cells 34):=by rw[k5 _ au];exact B
 have aw:D<o.next:=by rw[n5];exact ab
 have ax:h.next<o.next:=by rw[n5];exact bk
 have a5:Agm o D V M qc h2.next cs (.slice h2.next 0 (S.Qc.length+1) (S.Qc.length+1) true) ms ⟨S.dv,S.ev,S.Qc++[e]⟩ F (Bg G h2 o):=by
  refine J.own C T ?_ ?_ c5.next (fun i X h1 _ h3=>?_) s2.lt (fun y=>.inr ⟨rfl,y⟩) (fun _=>.inl ⟨aD _,by rw[n5];exact ao⟩) (fun y _=>?_)
  ·refine J.Fl.frame fun y=>?_
   have gc:=J.Fl.block y;rw[k5 _ (Av gc J.C0 (by simp)),Aw.at x4 C gc fun z=>J.apart.2.2.2.2 y z.1 z.2,gc]
  ·rw[aE,bZ,cm]
   show Bu o _ _ 34 68 (S.Qc.length+1) ((S.Qc.map Le.cells).flatten++(e.cells++[]));rw[cW];exact r4.frame fun _=>k5 _ (by have:=C _ _ J.C0;omega)
  ·rw[k5 i h1]
   exact x4.get i X fun y=>h3 y.1 y.2
  ·have:=C _ _ (J.Fl.block y);omega
 have bn:∀i,Bg G h2 o i->i<o.next:=Bg.lt s2.lt c5.next
 have s5:Fo o D ⟨S.dv,S.ev,S.Qc++[e]⟩ (Bg G h2 o):=by
  refine⟨bn,⟨by rw[aE];show S.ev.length+(S.Qc.length+1)<=200;omega,s.wf.wf,fun x hx=>?_⟩,V,M,qc,_,cs,_,ms,F,a5⟩;rcases bO.1 hx with hx|hx
  ·exact s.wf.hwf x hx
  ·rw[aP.1 hx];exact w
 have a1:Aw G h o:=((Ext.to x1).trans (Ext.to x2)).then c5 fun j hj hl=>by
  rcases hj with y|y
  ·exact y
  ·omega
 have cG:∀u,o.next<=u.next->Aw (Bg G h2 o) o u->Aw G h u:=fun u l c=>a1.then c fun j hj hl=>by
  rcases hj with y|y
  ·exact y
  ·have:=x1.next;have:=x2.next;omega
 have fin:∀(u:Ab) (dv:Dv),Fo u D ⟨dv,S.ev,S.Qc++[e]⟩ (Bg (Bg G h2 o) o u)->Aw (Bg G h2 o) o u->HB u->dv=S.dv.Ta e->Ok (some (.tuple [],u)) fun v h'=>Fo h' D ⟨S.dv.Ta e,S.ev,S.Qc++[e]⟩ (Bg G h h')/\Aw G h h'/\HB h':=fun u dv s9 L U he=>by
  subst he;refine .ret ⟨s9.mono (fun i X=>?_) (Bg.lt s.lt (cG u L.next L).next),cG u L.next L,U⟩;rcases X with(y|y)|y
  ·exact .inl y
  ·have:=x1.next;have:=x2.next;have:=L.next;exact .inr ⟨a_,a_⟩
  ·exact .inr ⟨by have:=a1.next;omega,y.2⟩
 obtain⟨_,e1,e2,_⟩:=e.one;rw[Ak B rfl e1];simp only[Ac,I];have W:∀st:Nat,S.dv.fail e.Am st=S.dv.Ta e ->
  Ok (Kw 6 63 (((DX.ld ⟨0,[],[],[],[]⟩ 3 D).ld 5 h.next)) o (fun h=>Px K (.ptr V 0) (I e.Am) (I st) h) fun _ h s=>some (.tuple [],h)) fun v h'=>Fo h' D ⟨S.dv.Ta e,S.ev,S.Qc++[e]⟩ (Bg G h h')/\Aw G h h'/\HB h':=by
  intro st bo;refine Ok.bC (S:=F) (A93 (K:=K) a5.dev.lift (Cz E) e.Am st) (fun _ _ p=>p.2.1) ?_;rintro _ h6 u s' ⟨d6,_,bp⟩ sm L _;obtain⟨s9,ae,_⟩:=s5.call a5 E d6 sm L;exact fin u _ s9 ae (sm.hb bp) bo
 by_cases k1:e.kind=1
 ·simp only[k1,aB,Aa]
  rw[Cd B rfl (Ai el)];refine(A6t (K:=K) A hK a_ s5 E w).Al ?_;rintro _ u ⟨s9,L,U⟩;exact fin u _ s9 L U (by unfold Dv.Ta;rw[aN k1])
 ·simp only[k1,aA,Aa]
  by_cases k2:e.kind=2
  ·simp only[k2,aB,Aa,Ar]
   rw[I6 aw,Cy T rfl]
   try simp only[Aa,Ar]
   rw[I6 ax,Ak B rfl e2];exact W 3 (by unfold Dv.Ta;rw[aK k1,aN k2])
  ·simp only[k2,aA,Aa]
   by_cases k3:e.kind=3
   ·simp only[k3,aB,Aa,Ar]
    rw[I6 aw,Cy T rfl]
    try simp only[Aa,Ar]
    rw[I6 ax,Ak B rfl e2];exact W 4 (by unfold Dv.Ta;rw[aK k1,aK k2,aN k3])
   ·simp only[k3,aA,Aa]
    by_cases k4:e.kind=4
    ·simp only[k4,aB,Aa,Cy T rfl]
     refine(A5c (K:=K) a5.dev E).Al ?_;rintro _ u ⟨d9,L,U⟩;obtain⟨s9,ae⟩:=s5.put a5 E (d9.grow a5.dev.lt L.next) L;exact fin u _ s9 ae U (by unfold Dv.Ta;rw[aK k1,aK k2,aK k3,aN k4])
    ·simp only[k4,aA,Aa]
     exact fin o S.dv (s5.grow s5.lt (aD _)) (Aw.refl _) E (by unfold Dv.Ta;rw[aK k1,aK k2,aK k3,aK k4])
theorem Bhz(q o n r:Nat)(op:Bool)(k:EV->R):Jk iD (bin TT .eql 115) (.slice q o n r op) .An k=k (.bool false):=by kernel_rfl
theorem Bc9(q o z:Nat)(k:EV->R):Jk iD (bin TT .eql 115) (.tail q o z) .An k=k (.bool false):=by kernel_rfl
theorem A4z{q:Nat}{e:Le}(w:∀x∈e::ev,x.Wf)(U:ev.length<=65000)(E:h.get q=some (.vec ((e::ev).map Le.cells).flatten 34 68))(hb:HB h){kk:EV->Ab->R}
 (B:∀v h' q',Bu h' v q' 34 68 ev.length (ev.map Le.cells).flatten->Ext h h'->(0<ev.length->h.next<=q')->Ok (kk v h') Q) :
 Ok (il 68 (.slice q 0 (e::ev).length (e::ev).length true) (some (.int .i64 1)) none none fun v=>Al (Dw K v h) kk) Q:=by
 have o:Ext h (h.new (.cells [] 34)):=Aw.new _ _;have C:By (List.replicate 4 (.int .i64 0)++List.replicate 64 (.int .u8 0)) 34 68 0 [] h=some (.slice h.next 0 0 0 false,h.new (.cells [] 34)):=rfl;have wl:∀x∈ev.map Le.cells,x.length=68:=fun x J=>by
  obtain⟨y,L,rfl⟩:=b9.1 J;exact Le.len (w y (aV _ L))
 have fl:(ev.map Le.cells).flatten.length=ev.length*68:=by rw[qi _ wl,bT]
 rcases eC ev.length with h0|W
 ·have:ev = []:=bh.1 h0
  subst this;have e1:∀k:EV->R,il 68 (.slice q 0 [e].length [e].length true) (some (.int .i64 1)) none none k=k (.tail q 68 0):=fun k=>rfl
  rw[e1];simp only[Dw,Bc9,Aa,F6];rw[C,Aq];have:Ef 34 68 (.slice h.next 0 0 0 false) (.tail q 68 0) (h.new (.cells [] 34))=some (.slice h.next 0 0 0 false,h.new (.cells [] 34)):=by unfold Ef;rfl
  rw[this,Aq]
  try simp only[Aa]
  exact B _ _ 0 (.empty _ _ _ _ _) o fun y=>absurd y (bU _)
 ·obtain⟨m,hm⟩:∃m,ev.length=m+1:=⟨ev.length-1,a_⟩
  have e1:∀k:EV->R,il 68 (.slice q 0 (e::ev).length (e::ev).length true) (some (.int .i64 1)) none none k=k (.slice q 68 ev.length ev.length true):=fun k=>by
   rw[bP,hm];rfl
  rw[e1];simp only[Dw,Bhz,Aa,F6];rw[C,Aq];have O:Pw (h.new (.cells [] 34)) 68 ev.length (.slice q 68 ev.length ev.length true)=some (ev.map Le.cells).flatten:=by
   show Bb (Nat.beq ev.length 0) (some []) (Xk _ q 68 (Nat.mul ev.length 68))=_;rw[show Nat.beq ev.length 0=false by rw[hm];rfl,Bk];unfold Xk mi;rw[o.at hb E];have el:=Le.len (w e (aW ..));show Ke (e.cells++(ev.map Le.cells).flatten) 68 (ev.length*68)=_;rw[E4 (by rw[aE,el,fl];exact aD _),<-el,dN,bK (by rw[fl,el];exact aD _)]
  have ap:=X5 (h:=h.new (.cells [] 34)) (b:=h.next) (e:=34) (x:=.slice q 68 ev.length ev.length true) rfl a_ O fl 0;rw[show ∀(x:R) (k u:EV->Ab->R),Al (Al x k) u=Al x fun v h=>Al (k v h) u from fun x k u=>by cases x<;>rfl];refine ap.Al ?_;rintro v h2 ⟨q',r,T,l⟩;rw[Aq];exact B v h2 q' r (o.trans T) fun y=>by have:=l y;have:=o.next;omega
theorem Bj8(A:Ca disp)(hK:1000<K)(hd:9<=d):∀(m:Nat) (S:Jj) (h:Ab) (G:Nat->Prop),S.ev.length<m->Fo h D S G->HB h ->
 Ok (Km (Ag TT disp K d false) (Ag TT disp K d true) K m (.ptr D 0) h) fun v h'=>Fo h' D S.due (Bg G h h')/\Aw G h h'/\HB h':=by
 intro m;induction m with
 | zero=>intro S h G hm;omega
 | succ m ih=>
  intro S h G hm s hb;obtain⟨V,M,qc,qh,cs,hs,ms,F,a⟩:=s.Ly;obtain⟨zl,z,q,b,_⟩:=a.dev.Ly;have lD:=hb _ _ a.C0;have lV:=hb _ _ b.dev;have stay:S.due=S->Ok (some (.tuple [],h)) fun(_:EV) h'=>Fo h' D S.due (Bg G h h')/\Aw G h h'/\HB h':=fun y=>by
   rw[y];exact .ret ⟨s.grow s.lt (aD _),Aw.refl _,hb⟩
  simp only[Km,Aa,Ar,Cj lD,Cy a.C0 rfl];have W:T1 K (.ptr V 0) h.lift=some (.bool S.dv.down,h.lift):=by
   simp only[T1,Aa,Cy b.lift.dev rfl]
  rw[lS W];obtain⟨dv,ev,Qc⟩:=S;simp only at a W b hm⊢;cases X:dv.down with
  | true=>
   simp only[Aa,Ac,Ar,Nt,Kt];refine stay ?_;unfold Jj.due;cases ev with
   | nil=>rfl
   | cons e r=>unfold kI;rw[aN (.inl X)]
  | false=>
   simp only[Aa,Ac,Ar];rw[I6 lD,Cy a.C0 rfl];simp only[Aa,a.Fl.Fz,Ac];cases ev with
   | nil=>
    simp only[fL,Nt,Kt,Aa,Ac];exact stay rfl
   | cons e r=>
    have we:=s.wf.wf e (aW ..);have el:=Le.len we;have gq:=a.Fl.block (Nat.succ_pos _);have lq:=hb _ _ gq;have c0:Ke (((e::r).map Le.cells).flatten) 0 68=some e.cells:=by
     show Ke (e.cells++_) 0 68=_;rw[E4 (by rw[aE,el];omega),dK,<-el,dQ]
    have al:(((e::r).map Le.cells).flatten)[0]? = some (I e.Ly):=rfl;rw[aQ (show(0:Int)<((e::r).length:Int) by rw[bP];omega)];simp only[Nt,Aa,Ac,Ar];rw[I6 lD,Cy a.C0 rfl]
    try simp only[Aa,Ar]
    rw[show ∀k:EV->R,Ve 68 cs (.int .i64 0) k=k (.ptr qc (0*68))from fun k=>a.Fl.ix (Nat.succ_pos _) .i64 k]
    try simp only[Aa,Ar]
    rw[I6 lq,Ak gq rfl al]
    try simp only[Aa,Ar]
    rw[I6 lD,Cy a.C0 rfl]
    try simp only[Aa,Ar]
    have ao:Rx K (.ptr V 0) h.lift=some (I dv.cnt,h.lift):=by
     simp only[Rx,Aa,Cy b.lift.dev rfl]
    rw[lS ao];simp only[I,Ac];by_cases E:e.Ly<=dv.cnt
    ·rw[aQ E]
     simp only[Kt,Aa,KI,Cy a.C0 rfl];rw[show ∀k:EV->R,Ve 68 cs (.int .i64 0) k=k (.ptr qc (0*68))from fun k=>a.Fl.ix (Nat.succ_pos _) .i64 k];rw[Cd gq rfl c0]
     try simp only[Aa]
     have aq:(List.replicate 4 (EV.int .i64 0)++List.replicate 64 (EV.int .u8 0)).length=68:=by simp
     refine Ok.st e.cells (Ad _ _) rfl (by show Fw e.cells=68;rw[Be,el]) (Bl (by rw[aq];exact el.symm)) ?_;obtain⟨L,e_,U,g2,_⟩:=nP h (.cells (List.replicate 4 (EV.int .i64 0)++List.replicate 64 (EV.int .u8 0)) 34) (.cells e.cells 34);rw[e_];have o:=U.hb hb;have s1:=s.ext U;have u:=a.frame U.next fun i B=>U.get i (s.lt i B) id
     have aw:=u.Fl.block (Nat.succ_pos _);have ax:=u.Fl.slice (Nat.succ_pos _);subst ax;simp only[Aa,Cy u.C0 rfl];have ay:=s.wf.ev;refine A4z (K:=K) s.wf.wf (by simp only[bP]at ay;omega) aw o ?_;intro v h2 q' r2 C O;have T:=C.hb o;have s2:=s1.ext C;have a2:=u.frame C.next fun i B=>C.get i (s1.lt i B) id
     have g2:=C.at o g2
     try simp only[Aa]
     have Y:=T _ _ a2.C0;refine Ok.Z7 a2.C0 r2.plain.1 r2.plain.2 (by show 1<4;decide) ?_;simp only[List.set];have aa:(h2.put D (.cells [EV.ptr V 0,v,hs,.map M] 118)).get D=some (.cells [EV.ptr V 0,v,hs,.map M] 118):=Af _ _ _;have k3:∀i,i≠D->(h2.put D (.cells [EV.ptr V 0,v,hs,.map M] 118)).get i=h2.get i:=fun i B=>Ae _ (cn B)
     have ab:HB (h2.put D (.cells [EV.ptr V 0,v,hs,.map M] 118)):=T.put Y _;have c3:Aw G h2 (h2.put D (.cells [EV.ptr V 0,v,hs,.map M] 118)):=(Aw.refl h2).Ao (.inl a.sub.2.1) Y _;have n3:(h2.put D (.cells [EV.ptr V 0,v,hs,.map M] 118)).next=h2.next:=rfl
     generalize h2.put D (.cells [EV.ptr V 0,v,hs,.map M] 118)=J at aa k3 ab c3 n3⊢;have nD:h.next≠D:=a_
     have g3:J.get h.next=some (.cells e.cells 34):=by rw[k3 _ nD];exact g2
     have rb:0<r.length->q'<h2.next:=fun y=>T _ _ (r2.block y)
     have a3:Agm J D V M q' qh v hs ms ⟨dv,r,Qc⟩ F (Bg G L J):=by
      have az:L.next<=J.next:=by rw[n3];exact C.next
      have ad:∀i,i<L.next->i≠D->J.get i=L.get i:=fun i B a5=>by rw[k3 i a5,C.get i B id]
      refine u.own o aa (r2.frame fun y=>k3 _ (by have:=O y;have:=o _ _ u.C0;omega)) (u.Ap6.frame fun y=>ad _ (o _ _ (u.Ap6.block y)) (Av (u.Ap6.block y) u.C0 (by simp))) az (fun i B L _ _=>ad i B L) s1.lt
       (fun y=>.inl ⟨O y,by rw[n3];exact rb y⟩) (fun y=>.inr ⟨rfl,y⟩) fun y z=>?_
      have:=O y;have:=o _ _ (u.Ap6.block z);omega
     have a6:Aw G h J:=((Ext.to U).trans (Ext.to C)).trans c3;have s3:Fo J D ⟨dv,r,Qc⟩ (Bg G L J):=by
      refine⟨Bg.lt s1.lt (by rw[n3];exact C.next),⟨?_,fun x hx=>s.wf.wf x (aV _ hx),s.wf.hwf⟩,V,M,q',qh,v,hs,ms,F,a3⟩;have:=s.wf.ev;simp only[bP]at this⊢;omega
     rw[Cd g3 rfl (Ai el)];refine(Bhf (K:=K) A hK a_ s3 ab we (by have:=s.wf.ev;simp only[bP]at this⊢;omega)).Al ?_;rintro _ h4 ⟨s4,c4,a7⟩;have ae:(Jj.mk dv (e::r) Qc).due=(Jj.mk (dv.Ta e) r (Qc++[e])).due:=by
      unfold Jj.due
      conv=>lhs;unfold kI
      rw[aK (by rw[X];rintro(y|y);exact absurd y (by simp);exact y E)]
     rw[ae];refine(ih ⟨dv.Ta e,r,Qc++[e]⟩ h4 _ (by simp only[bP]at hm⊢;omega) s4 a7).mono ?_;rintro _ h5 ⟨s5,c5,a8⟩;have t1:=U.next
     have t2:=C.next
     have t4:=c4.next
     have t5:=c5.next
     have ba:Aw G h h4:=a6.then c4 fun j hj hl=>by
      rcases hj with y|y
      ·exact y
      ·omega
     have af:Aw G h h5:=ba.then c5 fun j hj hl=>by
      rcases hj with(y|y)|y
      ·exact y
      ·omega
      ·omega
     refine⟨s5.mono (fun i B=>?_) (Bg.lt s.lt af.next),af,a8⟩;rcases B with((y|y)|y)|y
     ·exact .inl y
     ·exact .inr ⟨a_,a_⟩
     ·exact .inr ⟨a_,a_⟩
     ·exact .inr ⟨a_,y.2⟩
    ·rw[aS E]
     simp only[Kt,Aa];refine stay ?_;unfold Jj.due kI;rw[aN (.inr E)]
theorem th(A:Ca disp)(hK:1000<K)(S:Jj):∀d,12<=d->TZ disp K d S:=by
 intro d hd h D G s hb;obtain⟨e,rfl⟩:=d_ d;rw[Atf A a_];exact Bj8 (K:=K) A hK a_ K S h G (by have:=s.wf.ev;omega) s hb
section
def Out(F:Nat->Prop)(h:Ab):Nat->Prop:=fun i=>i<h.next/\¬F i
abbrev Kf(F:Nat->Prop):Ab->Ab->Prop:=Aw fun i=>¬F i
theorem Aw.kf(c:Aw (Out F h) h h'):Kf F h h':=c.mono fun _ y=>y.2
theorem Ext.kf(c:Ext h h'):Kf F h h':=Ext.to c
theorem Kf.less(c:Kf F h h')(s:∀i,F' i->F i):Kf F' h h':=c.mono fun i y z=>y (s i z)
theorem Kf.at(c:Kf F h h')(hb:HB h){o:Ds}(g:h.get i=some o)(u:F i):h'.get i=some o:=Aw.at c hb g fun y=>y u
theorem Ext.nT{o h2:Ab}(x:Ext h o)(c:Kf (Bg F h o) o h2):Kf F h h2:=by
 refine(Ext.to (S:=fun i=>¬F i) x).then c fun i y u z=>y (.inl z)
theorem Ss.frame(s:Ss h m S H)(n:h.next<=h'.next)(e:∀i,H i->h'.get i=h.get i):Ss h' m S H:=by
 obtain⟨lt,D,p,bl,ql,np,q,c,G,a⟩:=s;obtain⟨t1,t2,t3,t4,t5,t6⟩:=a.sub;have k:∀i o,h.get i=some o->H i->h'.get i=some o:=fun i o g u=>by rw[e i u];exact g
 exact⟨fun i u=>aL (lt i u) n,D,p,bl,ql,np,q,c,G,⟨k _ _ a.Jb.Jb t2,k _ _ a.Jb.Ayw t3⟩,
  ⟨a.Gt.pos,k _ _ a.Gt.Gt t4,k _ _ a.Gt.row t5,fun d hd=>k _ _ (a.Gt.que d hd) (t6 d hd).1,fun d hd=>k _ _ (a.Gt.chan d hd) (t6 d hd).2,a.Gt.inj⟩,
  a.psz,a.drv.frame n fun i u=>e i (t1 i u),a.apart,a.sub⟩
structure Mi.Wp(S:Mi):Prop where
 sm:Sm S.g
 ps:∀d,d<S.g.D.toNat->∀x∈S.ps d,D4 S.g x=d/\¬S.bad x.toNat=1
structure Mi.Wf(S:Mi):Prop extends S.Wp where
 op:(S.a = -1/\S.b = -1)\/((0<=D4 S.g S.a/\¬S.bad S.a.toNat=1)/\(0<=D4 S.g S.b/\¬S.bad S.b.toNat=1))
theorem pt(s:Sm g){z:Int}(h:0<=D4 g z:=by omega):Vv z:=by
 have o:=s.d1;have h2:=s.z1;have u:=s.d0;have h4:=s.z0;rcases lU s z with y|⟨_,_,_,C,E⟩
 ·omega
 ·obtain⟨J,L⟩:=Rp (a:=g.D) (b:=g.Z) (A:=8) (B:=64)
  exact⟨a_,a_⟩
theorem sO(s:Sm g){z:Int}(h:0<=D4 g z):0<=z:=by
 rcases lU s z with y|⟨_,_,_,o,u⟩<;>omega
theorem Mi.Wf.rng(w:S.Wf):Vv S.a/\Vv S.b:=by
 rcases w.op with⟨o,h2⟩|⟨o,h2⟩
 ·rw[o,h2];exact⟨⟨a_,a_⟩,⟨a_,a_⟩⟩
 ·exact⟨pt w.sm o.1,pt w.sm h2.1⟩
theorem UX(w:∀d,d<g.D.toNat->∀x∈ps d,D4 g x=d/\P x)(n:Nat)(z:Int)(u:0<=D4 g z->P z):∀d,d<g.D.toNat->∀x∈(X3 g n ps z).2 d,D4 g x=d/\P x:=by
 intro d hd x o;unfold X3 at o;split at o
 ·exact w d hd x o
 next h0=>
  split at o
  ·exact w d hd x o
  ·split at o
   ·simp only[upd]at o
    split at o
    next e=>
     subst e;rcases bO.1 o with o|o
     ·exact w _ hd x o
     ·rw[aP.1 o];exact⟨a_,u a_⟩
    ·exact w d hd x o
   ·exact w d hd x o
theorem wB(S:Mi)(z u:Int):(S.leave z u).1.g=S.g/\(S.leave z u).1.a=S.a/\(S.leave z u).1.b=S.b/\(S.leave z u).1.u=S.u/\(S.leave z u).1.bad=S.bad:=by
 unfold Mi.leave;split
 ·exact⟨rfl,rfl,rfl,rfl,rfl⟩
 ·split<;>exact⟨rfl,rfl,rfl,rfl,rfl⟩
theorem Mi.Wp.leave(w:S.Wp)(z u:Int):(S.leave z u).1.Wp:=by
 unfold Mi.leave;split
 ·exact w
 next h0=>
  split
  ·refine⟨w.sm,UX w.ps _ _ fun o y=>h0 (.inr (.inl ?_))⟩
   unfold Mi.Ja;rw[aQ o,aQ y];rfl
  ·exact⟨w.sm,w.ps⟩
theorem zC(S:Mi):S.close.1.g=S.g/\S.close.1.a = -1/\S.close.1.b = -1/\S.close.1.u=0/\S.close.1.bad=S.bad:=by
 unfold Mi.close;obtain⟨o,B,a3,a4,C⟩:=wB { S with a:=-1,b:=-1,u:=0 } S.a S.u;obtain⟨b1,b2,b3,b4,E⟩:=wB (({ S with a:=-1,b:=-1,u:=0 }:Mi).leave S.a S.u).1 S.b S.u;exact⟨b1.trans o,b2.trans B,b3.trans a3,b4.trans a4,E.trans C⟩
theorem Mi.Wp.close(w:S.Wp):S.close.1.Wf:=by
 have:({ S with a:=-1,b:=-1,u:=0 }:Mi).Wp:=⟨w.sm,w.ps⟩;obtain⟨B,o,a3,a4,C⟩:=zC S;exact { toWp:=(this.leave _ _).leave _ _,op:=.inl ⟨o,a3⟩ }
theorem Mi.Wp.mark(w:S.Wp){z:Int}(C:0<=D4 S.g z):(S.mark z).Wp:=by
 refine⟨w.sm,fun d hd x o=>?_⟩;have o:x∈S.dropped z d:=o;unfold Mi.dropped at o;rw[aK a_]at o;have key:∀x,D4 S.g x=d/\¬S.bad x.toNat=1->¬x=z->D4 S.g x=d/\¬(S.mark z).bad x.toNat=1:=fun x o E=>by
  refine⟨o.1,?_⟩;show ¬(if x.toNat=z.toNat then(1:Int)else S.bad x.toNat)=1;have u:=sO w.sm C;have h2:=sO w.sm (z:=x) (by rw[o.1];omega);rw[aK a_];exact o.2
 simp only[upd]at o;split at o
 next e=>
  have h2:=(dZ.1 o).2;have u:=w.ps d hd x (by rw[e];exact(dZ.1 o).1);exact key x u (cX h2)
 next B=>
  have u:=w.ps d hd x o;refine key x u fun y=>B ?_
  subst y;omega
theorem Mi.Wf.Bq(w:S.Wf)(z:Int):(S.Bq z).1.Wf:=by
 unfold Mi.Bq;split
 ·exact w
 next o=>
  have o:0<=D4 S.g z:=a_
  split
  ·exact w
  ·split
   next u=>
    refine { toWp:=w.toWp.mark o,op:=?_ };rcases w.op with y|⟨C,E⟩
    ·exact .inl y
    ·have key:∀x,(0<=D4 S.g x/\¬S.bad x.toNat=1)->¬z=x->0<=D4 S.g x/\¬(S.mark z).bad x.toNat=1:=fun x B u=>by
      refine⟨B.1,?_⟩;show ¬(if x.toNat=z.toNat then(1:Int)else S.bad x.toNat)=1;have J:=sO w.sm o;have h2:=sO w.sm B.1;rw[aK a_];exact B.2
     exact .inr ⟨key _ C u.1,key _ E u.2⟩
   ·exact(w.toWp.mark o).close
theorem UY{u:Nat->List Int}{x y:Int}(w:∀d,d<g.D.toNat->∀x∈ps d,D4 g x=d/\P x)(h:mD ps g.D.toNat=some (x,y,u)):
 ∃a b:Nat,a<g.D.toNat/\b<g.D.toNat/\a≠b/\ps a=x::u a/\ps b=y::u b/\(∀d,d≠a->d≠b->u d=ps d)/\Fq ps (-1) g.D.toNat=a/\Fq ps a g.D.toNat=b/\(D4 g x=a/\P x)/\(D4 g y=b/\P y):=by
 unfold mD at h;split at h
 ·cases h
 next U=>
  obtain⟨a,b,e1,e2,O,h2,T,h4,W⟩:=TS U TU;rw[e1,e2]at h;injection h with h;injection h with B h;injection h with C o;simp only[bJ]at B C o;obtain⟨X,r,E⟩:∃x r,ps a=x::r:=by cases J:ps a with|nil=>exact absurd J h4|cons x r=>exact⟨x,r,rfl⟩
  obtain⟨Y,t,L⟩:∃x r,ps b=x::r:=by cases J:ps b with|nil=>exact absurd J W|cons x r=>exact⟨x,r,rfl⟩
  rw[E]at B o;rw[L]at C o;simp only[List.headD_cons,List.tail_cons]at B C o;subst B;subst C;subst o;refine⟨a,b,O,h2,T,?_,?_,fun d d1 d2=>?_,e1,e2,w a O _ (by rw[E];exact aW ..),w b h2 _ (by rw[L];exact aW ..)⟩
  ·rw[E];simp[upd,T]
  ·rw[L];simp[upd]
  ·simp[upd,d1,d2]
theorem Mi.Wf.ready(w:S.Wf):S.ready.1.Wf:=by
 unfold Mi.ready;split
 ·exact w
 ·split
  ·exact { toWp:=⟨w.sm,w.ps⟩,op:=w.op }
  ·cases B:mD S.ps S.g.D.toNat with
   | none=>exact { toWp:=⟨w.sm,w.ps⟩,op:=w.op }
   | some t=>
    obtain⟨x,y,u⟩:=t;obtain⟨a,b,T,h2,U,C,E,J,_,_,L,O⟩:=UY w.ps B;refine { toWp:=⟨w.sm,fun d hd z o=>?_⟩,op:=.inr ⟨⟨by show 0<=D4 S.g x;omega,L.2⟩,⟨by show 0<=D4 S.g y;omega,O.2⟩⟩ };have o:z∈u d:=o;refine w.ps d hd z ?_;by_cases d1:d=a
    ·subst d1;rw[C];exact aV _ o
    ·by_cases d2:d=b
     ·subst d2;rw[E];exact aV _ o
     ·rw[J d d1 d2]at o;exact o
structure C8(h:Ab)(m:Nat)(S:Mi)(F:Nat->Prop):Prop where
 s:Ss h m S (Out F h)
 lt:∀i,F i->i<h.next
 wf:S.Wf
section
variable{S':Mi}
theorem C8.made(M:C8 h m S F)(s:Ss h' m S' (Bg (Out F h) h h'))(c:Aw (Out F h) h h')(w:S'.Wf):C8 h' m S' F/\Kf F h h':=by
 refine⟨⟨s.mono (fun i o=>?_) fun i o=>o.1,fun i o=>aL (M.lt i o) c.next,w⟩,c.kf⟩;rcases o with o|o
 ·exact⟨aL o.1 c.next,o.2⟩
 ·exact⟨o.2,fun y=>by have:=M.lt i y;omega⟩
theorem C8.ext(M:C8 h m S F)(hb:HB h)(x:Ext h h'):C8 h' m S (Bg F h h'):=by
 refine⟨(M.s.ext hb x).mono (fun i o=>⟨aL o.1 x.next,fun y=>?_⟩) fun i o=>o.1,Bg.lt M.lt x.next,M.wf⟩;rcases y with y|y
 ·exact o.2 y
 ·have:=o.1;omega
theorem C8.less(M:C8 h m S F)(s:∀i,F' i->F i):C8 h m S F':=
 ⟨M.s.mono (fun i o=>⟨o.1,fun y=>o.2 (s i y)⟩) fun i o=>o.1,fun i o=>M.lt i (s i o),M.wf⟩
theorem C8.iv {T:Nat->Prop}(M:C8 h m S F)(c:Aw T h h')(t:∀i,T i->i<h.next->F i):C8 h' m S F:=by
 refine⟨(M.s.frame c.next fun i o=>c.get i o.1 fun y=>o.2 (t i y o.1)).mono (fun i o=>⟨aL o.1 c.next,o.2⟩) fun i o=>o.1,fun i o=>aL (M.lt i o) c.next,M.wf⟩
theorem C8.same(M:C8 h m S F)(sm:iG h h'):C8 h' m S F:=
 ⟨(M.s.frame (by rw[sm.next];exact aD _) fun i _=>sm.get i).mono (fun i o=>⟨by rw[sm.next];exact o.1,o.2⟩) fun i o=>o.1,fun i o=>by rw[sm.next];exact M.lt i o,M.wf⟩
end
section
variable (A:Ca disp)(hK:10000<K)(M:C8 h m S F)(hb:HB h)
include A hK M hb
theorem UZ(n:Nat):vK disp K n:=fun T _ d hd=>th A a_ T d hd
theorem Bfw(hd:16<=d):Ok (Ag TT disp K d false 159 [.ptr m 0] h) fun v h'=>v=I S.ready.2/\C8 h' m S.ready.1 F/\Kf F h h'/\HB h':=by
 refine(Ayy A hK hd (UZ A hK M hb S.dr.ev.length) (aD _) M.s hb).mono ?_;rintro v h' ⟨e,s,c,o⟩;obtain⟨u,k⟩:=M.made s c M.wf.ready;exact⟨e,u,k,o⟩
theorem Y7(hd:18<=d){z:Int}(u:Vv z):Ok (Ag TT disp K d false 97 [.ptr m 0,I z] h) fun v h'=>v=I (S.Bq z).2/\C8 h' m (S.Bq z).1 F/\Kf F h h'/\HB h':=by
 refine(An4 A hK hd (UZ A hK M hb S.dr.ev.length) (aD _) M.s hb M.wf.rng.1 M.wf.rng.2 u).mono ?_;rintro v h' ⟨e,s,c,o⟩;obtain⟨B,k⟩:=M.made s c (M.wf.Bq z);exact⟨e,B,k,o⟩
end
end
theorem Fo.lift{S:Jj}(d:Fo h D S G):Fo h.lift D S G:=d.frame (aD _) fun i _=>Bv h i
theorem Fo.same {o h4:Ab}{S:Jj}(d:Fo o D S (Bg G h.lift o))(sm:iG o h4):Fo h4 D S (Bg G h h4):=by
 refine(d.frame (h':=h4) (by rw[sm.next];exact aD _) fun j _=>sm.get j).mono (fun j hj=>?_) fun j hj=>?_
 ·rcases hj with y|y
  ·exact .inl y
  ·exact .inr ⟨y.1,by rw[sm.next];exact y.2⟩
 ·rw[sm.next]
  rcases hj with y|y
  ·exact d.lt _ (.inl y)
  ·rw[sm.next]at y;exact y.2
theorem C8.drv{p:Nat}{q c:Nat->Nat}{dr:Jj}(M:C8 h m S F)(hb:HB h)(a:Asp h m D p bl ql np q c S G (Out F h))(d:Fo h' D dr (Bg G h h'))(o:Aw G h h'):
 C8 h' m { S with dr:=dr } F/\Kf F h h':=by
 have cH:=o.mono a.sub.1;exact M.made ⟨Bg.lt M.s.lt cH.next,D,p,bl,ql,np,q,c,_,a.zA hb d o⟩ cH { toWp:=⟨M.wf.sm,M.wf.ps⟩,op:=M.wf.op }
def Mi.put(S:Mi)(e:En)(Am Bw As seq:Int):Mi × Int:=
 if ¬(J3 { e with Bw:=Bw } Am S.u As seq).2=0 then(S,(J3 { e with Bw:=Bw } Am S.u As seq).2)else
 ({ S with dr:=(S.dr.append Am (Bh (Mh (J3 { e with Bw:=Bw } Am S.u As seq).1))).1 },
  if(S.dr.append Am (Bh (Mh (J3 { e with Bw:=Bw } Am S.u As seq).1))).2.2=0/\¬(S.dr.append Am (Bh (Mh (J3 { e with Bw:=Bw } Am S.u As seq).1))).2.1=S.u then 30 else(S.dr.append Am (Bh (Mh (J3 { e with Bw:=Bw } Am S.u As seq).1))).2.2)
theorem zD:List.replicate 5 (EV.int .i64 0)++List.replicate 44 (EV.int .u8 0)=Fr.zero.cells:=by kernel_rfl
theorem U'(A:Ca disp)(hK:10000<K)(hd:16<=d)(M:C8 h m S F)(hb:HB h)(w:e.Wf)(Am Bw As seq:Int):
 Ok (Ag TT disp K d false 194 [.ptr m 0,.agg e.cells,I Am,I Bw,I As,I seq] h) fun v h'=>v=I (S.put e Am Bw As seq).2/\C8 h' m (S.put e Am Bw As seq).1 F/\Kf F h h'/\HB h':=by
 obtain⟨dd,rfl⟩:=d_ d;rw[An3 A a_];have w':({ e with Bw:=Bw }:En).Wf:=⟨w.len,w.u8⟩;have el:=En.Ay w;have U:=En.Ay w';obtain⟨_,D,p,bl,ql,np,q,c,G,a⟩:=M.s;simp only[MN,Aa];refine Ok.Z7 (Ad _ _) rfl rfl (by show 5<e.cells.length;omega) ?_;obtain⟨h1,W,x1,X,_⟩:=nP h (.cells e.cells 151) (.cells (e.cells.set 5 (I Bw)) 151);rw[W];have X:h1.get h.next=some (.cells ({ e with Bw:=Bw }:En).cells 151):=X
 unfold Mi.put;generalize ({ e with Bw:=Bw }:En)=e' at X w' U⊢;have C:=x1.hb hb;have l7:=C _ _ X;have m1:=a.Jb.ext fun i o g=>x1.at hb g
 have lm:=C _ _ m1.Jb;rw[I6 l7,Cv X rfl,Ai U]
 try simp only[Aa,Ar]
 rw[I6 lm,m1.ou]
 try simp only[Ar]
 refine Ok.bE (zx (K:=K) w' (Cz C) hK Am S.u As seq) (fun _ _ p=>p.2) ?_;rintro _ bj h2 ⟨rfl,_⟩ _ x2;have aj:=x2.hb C;have Y:=UL w' Am S.u As seq;generalize aa:J3 e' Am S.u As seq=fe at Y⊢;obtain⟨f,er⟩:=fe;have fl:=Fr.Ay Y;have zl:=Fr.Ay Fr.G7;simp only[Aa,zD,Ar];rw[Hc];refine Ok.st f.cells (Ad _ _) rfl (by show Fw f.cells=49;rw[Be,fl]) (Bl (by rw[zl];exact fl.symm)) ?_;obtain⟨h3,W,x3,ab,_⟩:=nP h2 (.cells Fr.zero.cells 136) (.cells f.cells 136);rw[W];have B:=x3.hb aj;have E:Ext h h3:=(x1.trans x2).trans x3;simp only[I,Ac];by_cases he:er=0
 ·subst he
  simp only[aC,aA,Aa,ak,MM];obtain⟨hf,ao,_,_⟩:=A7l w' (Am:=Am) (off:=S.u) (As:=As) (seq:=seq) (by rw[aa]);rw[aa]at hf;have hf:f=_:=hf;have aq:hQ f=true:=by rw[hf];exact ao
  have m3:=a.Jb.ext fun i o g=>E.at hb g
  have aw:=B _ _ m3.Jb;have ax:=B _ _ ab
  try simp only[Ar]
  rw[I6 aw,m3.table]
  try simp only[Aa,Ar]
  rw[I6 ax,Cv ab rfl,Ai fl]
  try simp only[Aa,Ar]
  refine Ok.bE (AO (K:=K) Y aq (Cz B) hK) (fun _ _ p=>p.2) ?_;rintro _ bo h4 ⟨rfl,_⟩ _ x4;have ay:=x4.hb B;have ul:(Bh (Mh f)).length=64:=by rw[Bf,qE Y]
  try simp only[Aa,Ar]
  rw[Hc];refine Ok.st (Bh (Mh f)) (Ad _ _) rfl (by show Fw (Bh (Mh f))=64;rw[Be,ul]) (Bl (by rw[bW];exact ul.symm)) ?_;obtain⟨h5,W,x5,ad,_⟩:=nP h4 (.cells (List.replicate 64 (EV.int .u8 0)) 32) (.cells (Bh (Mh f)) 32);rw[W];have J:=x5.hb ay;have ae:Ext h h5:=(E.trans x4).trans x5;have M5:=M.ext hb ae;clear m3 m1 a;obtain⟨_,D,p,bl,ql,np,q,c,G,a⟩:=M5.s;have az:=J _ _ a.Jb.Jb;have a1:=J _ _ ad;simp only[ML,Aa,Ac,I,aC,aA,Ar];rw[I6 az,a.Jb.C0]
  try simp only[Aa,Ar]
  rw[I6 a1,Cv ad rfl,Ai ul]
  try simp only[Aa,Ar]
  refine Ok.bC (S:=G) (BH (K:=K) A a_ (d:=dd) a_ (fun k hk=>th A a_ S.dr k hk) a.drv.lift (Cz J) Am ul ⟨_,AS Y,rfl⟩) (fun _ _ p=>p.2.2.1) ?_;rintro _ h6 h7 s' ⟨rfl,d6,_,a2⟩ sm c7 _;have L:=sm.hb a2;obtain⟨O,k7⟩:=M5.drv J a (d6.same sm) c7;have T:Kf F h h7:=ae.nT k7;have O:=O.less fun i (hi:F i)=>Or.inl hi
  generalize S.dr.append Am (Bh (Mh f))=ap at O⊢;obtain⟨dr,off,er⟩:=ap;obtain⟨_,D,p,bl,ql,np,q,c,G,a⟩:=O.s;simp only[Aa,I,Ac];by_cases h0:er=0
  ·simp only[h0,aB,Aa,a.Jb.ou,I,Ac,gQ]
   by_cases h1:off=S.u
   ·simp only[h1,aC,aA,Aa,Nw,Nu,ak]
    exact .ret ⟨rfl,O,T,L⟩
   ·simp only[h1,aH,aB,Aa,Nw,Nu,bM]
    exact .ret ⟨rfl,O,T,L⟩
  ·simp only[h0,aA,Aa,Nw,Nu,gP,ak]
   exact .ret ⟨rfl,O,T,L⟩
 ·simp only[he,aH,aB,Aa,bM]
  exact .ret ⟨rfl,(M.ext hb E).less fun i (hi:F i)=>Or.inl hi,E.kf,B⟩
theorem Mi.Wf.put(w:S.Wf)(e:En)(Am Bw As seq:Int):(S.put e Am Bw As seq).1.Wf:=by
 unfold Mi.put;split
 ·exact w
 ·exact { toWp:=⟨w.sm,w.ps⟩,op:=w.op }
def Mi.both(S:Mi)(e:En)(As seq:Int):Mi × Int × Int:=
 if ¬(S.put e S.a S.b As seq).2=0 then((S.put e S.a S.b As seq).1,S.a,(S.put e S.a S.b As seq).2)else
 (((S.put e S.a S.b As seq).1.put e S.b S.a As seq).1,S.b,((S.put e S.a S.b As seq).1.put e S.b S.a As seq).2)
theorem Bjs(A:Ca disp)(hK:10000<K)(hd:17<=d)(M:C8 h m S F)(hb:HB h)(w:e.Wf)(As seq:Int):
 Ok (Ag TT disp K d false 160 [.ptr m 0,.agg e.cells,I As,I seq] h) fun v h'=>v=.tuple [I (S.both e As seq).2.1,I (S.both e As seq).2.2]/\C8 h' m (S.both e As seq).1 F/\Kf F h h'/\HB h':=by
 obtain⟨dd,rfl⟩:=d_ d;rw[Al7 A a_];have el:=En.Ay w;simp only[JC,Aa];obtain⟨Y,U,E,C,n1⟩:=nW h (.cells e.cells 151);rw[U];have o:=E.hb hb;have O:=M.ext hb E;obtain⟨_,D,p,bl,ql,np,q,c,G,a⟩:=O.s;rw[a.Jb.oa]
 try simp only[Aa]
 rw[a.Jb.ob,Cv C rfl,Ai el]
 try simp only[Aa]
 refine(U' A hK a_ O o w S.a S.b As seq).Al ?_;rintro _ h2 ⟨rfl,M2,T,u⟩;have B:Kf F h h2:=E.nT T;have C:=T.at o C (.inr ⟨aD _,a_⟩);unfold Mi.both;simp only[I,Ac];by_cases h0:(S.put e S.a S.b As seq).2=0
 ·simp only[h0,aC,aA,Aa,ak,Zu]
  rw[Cv C rfl,Ai el]
  try simp only[Aa]
  have M2:=M2.less fun i (J:F i)=>Or.inl J
  refine(U' A hK a_ M2 u w S.b S.a As seq).Al ?_;rintro _ h3 ⟨rfl,W,X,L⟩;exact .ret ⟨rfl,W,B.trans X,L⟩
 ·simp only[h0,aH,aB,Aa,bM]
  exact .ret ⟨rfl,M2.less fun i (J:F i)=>Or.inl J,B,u⟩
theorem Mi.Wf.both(w:S.Wf)(e:En)(As seq:Int):(S.both e As seq).1.Wf:=by
 unfold Mi.both;split
 ·exact w.put ..
 ·exact(w.put ..).put ..
theorem Bhr(D:Nat)(g:Gm)(p bl n:Nat)(a b u o:Int):(Abp D g p bl n a b u).set 267 (I o)=Abp D g p bl n a b o:=by
 unfold Abp;have B:([EV.ptr D 0]++gL g++Bc).length=263:=by rw[aE,Qo];rfl
 rw[dh _ _ a_,B];rfl
def Mi.lT(S:Mi):Mi:={ S with u:=Cs .i64 (S.u+1) }
theorem Mi.Wf.lT(w:S.Wf):S.lT.Wf:={ toWp:=⟨w.sm,w.ps⟩,op:=w.op }
theorem U_(M:C8 h m S F)(hb:HB h)(C:∀h',C8 h' m S.lT F->Kf F h h'->HB h'->Ext h h'\/True->h'.next=h.next->(∀i,F i->h'.get i=h.get i)->Ok (kk h') Q):
 Ok (Et (.ptr m 267) h fun v=>Jk kP (bin TT .add 3) v (.int .i64 1) fun w=>Vz 1 (.ptr m 267) w h kk) Q:=by
 obtain⟨lt,D,p,bl,ql,np,q,c,G,a⟩:=M.s;rw[a.Jb.ou];simp only[I,Ac];have ml:=y_ D S.g p bl (S.g.D*S.g.Z).toNat S.a S.b S.u;have lm:=hb _ _ a.Jb.Jb;refine Ok.Z7 a.Jb.Jb rfl rfl a_ ?_;rw[show EV.int .i64 (Cs .i64 (S.u+1))=I (Cs .i64 (S.u+1))from rfl,Bhr];have c1:Aw (fun i=>i=m) h (h.put m (.cells (Abp D S.g p bl (S.g.D*S.g.Z).toNat S.a S.b (Cs .i64 (S.u+1))) 113)):=(Aw.refl (S:=fun i=>i=m) h).Ao (.inl rfl) lm _;have E:=a.zB hb (Af _ _ _) c1;have B:∀i,F i->i≠m:=fun i o y=>by subst y;exact a.sub.2.1.2 o
 refine C _ ⟨⟨fun i o=>o.1,D,p,bl,ql,np,q,c,G,?_⟩,fun i o=>M.lt i o,M.wf.lT⟩ (c1.mono fun i o y=>B i y o) (hb.put lm _) (.inr trivial) rfl (fun i o=>Ae _ (cn (B i o)));exact E
def Mi.Lu(B:Mi × Int × Int):Mi:=if B.2.1=B.1.b then B.1.lT else B.1
def Me.zero:Me:=⟨0,0,0,0,0,0⟩
def Mi.Rt(e:En)(As seq:Int):Nat->Mi->Mi × Me × Int
 | 0,S=>(S,Me.zero,0)
 | n+1,S=>
  if ¬S.ready.2=0 then(S.ready.1,Me.zero,S.ready.2)else
  if(S.ready.1.both e As seq).2.2=0 then((S.ready.1.both e As seq).1.lT,⟨1,(S.ready.1.both e As seq).1.a,(S.ready.1.both e As seq).1.b,(S.ready.1.both e As seq).1.u,seq,Gh e.bytes⟩,0)else
  if(S.ready.1.both e As seq).2.2=34 then((S.ready.1.both e As seq).1,Me.zero,34)else
  if((Mi.Lu (S.ready.1.both e As seq)).Bq (S.ready.1.both e As seq).2.1).2=34 then(((Mi.Lu (S.ready.1.both e As seq)).Bq (S.ready.1.both e As seq).2.1).1,Me.zero,34)else
  Rt e As seq n ((Mi.Lu (S.ready.1.both e As seq)).Bq (S.ready.1.both e As seq).2.1).1
def Mi.place(S:Mi)(e:En)(As seq:Int):Mi × Me × Int:=
 if ¬(J3 e 0 0 As seq).2=0 then(S,Me.zero,(J3 e 0 0 As seq).2)else Mi.Rt e As seq 1000 S
def j7(bad:Nat->Int)(n:Nat):Nat:=((List.range n).filter fun i=>¬bad i=1).length
theorem CH(bad:Nat->Int)(n:Nat):j7 bad n<=n:=by
 unfold j7;have:=eW (fun i=>decide (¬bad i=1)) (List.range n);simpa using this
theorem Bcl(bad:Nat->Int){z:Nat}(u:z<n)(hb:¬bad z=1):j7 (fun i=>if i=z then 1 else bad i) n<j7 bad n:=by
 unfold j7;induction n with
 | zero=>omega
 | succ n ih=>
  rw[cu,eV,eV,aE,aE];by_cases h:z=n
  ·subst h
   have e1:((List.range z).filter fun i=>decide (¬(if i=z then(1:Int)else bad i)=1))=(List.range z).filter fun i=>decide (¬bad i=1):=by
    refine List.filter_congr fun i o=>?_
    have:=eX.1 o;rw[aK a_]
   have e2:([z].filter fun i=>decide (¬(if i=z then(1:Int)else bad i)=1)) = []:=by simp
   have e3:([z].filter fun i=>decide (¬bad i=1)) = [z]:=by simp[hb]
   rw[e1,e2,e3];simp
  ·have:=ih a_
   have e2:([n].filter fun i=>decide (¬(if i=z then(1:Int)else bad i)=1)) = [n].filter fun i=>decide (¬bad i=1):=by
    have:¬n=z:=fun y=>h y.symm
    rw[fU,fU];simp[this]
   rw[e2];omega
theorem BX(S:Mi):S.ready.1.g=S.g/\S.ready.1.bad=S.bad:=by
 unfold Mi.ready;split
 ·exact⟨rfl,rfl⟩
 ·split
  ·exact⟨rfl,rfl⟩
  ·split<;>exact⟨rfl,rfl⟩
theorem wE(S:Mi)(e:En)(Am Bw As seq:Int):(S.put e Am Bw As seq).1.g=S.g/\(S.put e Am Bw As seq).1.bad=S.bad/\(S.put e Am Bw As seq).1.a=S.a/\(S.put e Am Bw As seq).1.b=S.b/\(S.put e Am Bw As seq).1.u=S.u/\(S.put e Am Bw As seq).1.ps=S.ps:=by
 unfold Mi.put;split<;>exact⟨rfl,rfl,rfl,rfl,rfl,rfl⟩
theorem Bre(S:Mi)(e:En)(As seq:Int):(S.both e As seq).1.g=S.g/\(S.both e As seq).1.bad=S.bad/\(S.both e As seq).1.a=S.a/\(S.both e As seq).1.b=S.b/\(S.both e As seq).1.u=S.u/\(S.both e As seq).1.ps=S.ps /\
 ((S.both e As seq).2.1=S.a\/(S.both e As seq).2.1=S.b):=by
 unfold Mi.both;obtain⟨o,B,a3,a4,C,E⟩:=wE S e S.a S.b As seq;obtain⟨b1,b2,b3,b4,J,L⟩:=wE (S.put e S.a S.b As seq).1 e S.b S.a As seq;split
 ·exact⟨o,B,a3,a4,C,E,.inl rfl⟩
 ·exact⟨b1.trans o,b2.trans B,b3.trans a3,b4.trans a4,J.trans C,L.trans E,.inr rfl⟩
theorem Bns(B:Mi × Int × Int):(Mi.Lu B).g=B.1.g/\(Mi.Lu B).bad=B.1.bad/\(Mi.Lu B).a=B.1.a/\(Mi.Lu B).b=B.1.b:=by
 unfold Mi.Lu;split<;>exact⟨rfl,rfl,rfl,rfl⟩
theorem A6i(S:Mi)(z:Int):(S.Bq z).1.g=S.g:=by
 unfold Mi.Bq;split
 ·rfl
 ·split
  ·rfl
  ·split
   ·rfl
   ·exact(zC _).1
theorem CB(w:S.Wf){z:Int}(u:0<=D4 S.g z)(hb:¬S.bad z.toNat=1):j7 (S.Bq z).1.bad (S.g.D*S.g.Z).toNat<j7 S.bad (S.g.D*S.g.Z).toNat:=by
 have o:(S.Bq z).1.bad=fun i=>if i=z.toNat then 1 else S.bad i:=by
  unfold Mi.Bq;rw[aK a_,aK (by unfold Mi.Ja;rw[aS hb,eO];simp)];split
  ·rfl
  ·exact(zC _).2.2.2.2
 rw[o];refine Bcl S.bad ?_ hb;rcases lU w.sm z with y|⟨_,_,_,B,C⟩<;>omega
theorem Bdk(w:S.Wf)(h:S.ready.2=0):(0<=D4 S.ready.1.g S.ready.1.a/\¬S.ready.1.bad S.ready.1.a.toNat=1)/\(0<=D4 S.ready.1.g S.ready.1.b/\¬S.ready.1.bad S.ready.1.b.toNat=1):=by
 rcases w.ready.op with⟨y,_⟩|y
 ·exfalso
  revert h y;unfold Mi.ready;split
  next h0=>intro _ y;exact h0.1 y
  ·split
   next u=>intro y _;exact u y
   ·cases B:mD S.ps S.g.D.toNat with
    | none=>intro y _;simp at y
    | some t=>
     obtain⟨x,y,C⟩:=t;obtain⟨a,b,_,_,_,_,_,_,_,_,E,_⟩:=UY w.ps B;intro _ o;have o:x = -1:=o;have:=sO w.sm (z:=x) (by rw[E.1];omega);omega
 ·exact y
theorem kH:TT.size 87=some 6/\TT.agg 87=some true:=⟨by kernel_rfl,by kernel_rfl⟩
theorem Bde(A:Ca disp)(hK:10000<K)(hd:19<=d)(w:e.Wf)(As seq:Int){b5 C:Nat}:∀(n f:Nat) (h:Ab) (S:Mi) (F:Nat->Prop),j7 S.bad (S.g.D*S.g.Z).toNat<n->n<=f->C8 h m S F->HB h->F b5->F C->b5≠C ->
 h.get b5=some (.cells e.cells 151)->h.get C=some (.cells Me.zero.cells 87) ->
 Ok (Gc (Ag TT disp K d false) (Ag TT disp K d true) K f (.ptr m 0) (I As) (I seq) (.ptr b5 0) (.ptr C 0) h) fun v h'=>v=.tuple [.agg (Mi.Rt e As seq n S).2.1.cells,I (Mi.Rt e As seq n S).2.2]/\C8 h' m (Mi.Rt e As seq n S).1 (fun i=>F i/\¬i=C)/\Kf (fun i=>F i/\¬i=C) h h'/\HB h':=by
 intro n;induction n with
 | zero=>intro f h S F hg;omega
 | succ n ih=>
  intro f h S F hg hf M hb f5 f8 a1 g5 g8;obtain⟨f,rfl⟩:=d_ f;have el:=En.Ay w;have sub:∀i,(F i/\¬i=C)->F i:=fun i hi=>hi.1
  have fin:∀(me:Me) (o:Int) (L:Ab) (S5:Mi),C8 L m S5 F->Kf F h L->HB L->(S5,me,o)=Mi.Rt e As seq (n+1) S ->
   Ok (Vz 6 (.ptr C 0) (.agg me.cells) L fun h=>Gi TT [.c (.ptr C 0) 87,.v (I o)] h) fun v h'=>v=.tuple [.agg (Mi.Rt e As seq (n+1) S).2.1.cells,I (Mi.Rt e As seq (n+1) S).2.2]/\C8 h' m (Mi.Rt e As seq (n+1) S).1 (fun i=>F i/\¬i=C)/\Kf (fun i=>F i/\¬i=C) h h'/\HB h':=by
   intro me o L S5 M5 k5 J he;have al:=k5.at hb g8 f8;have l8:=J _ _ al;refine Ok.st me.cells al rfl rfl (Bl rfl) ?_;rw[Du (Af _ _ _) kH.1 kH.2 rfl,<-he];have c8:Aw (fun i=>i=C) L (L.put C (.cells me.cells 87)):=(Aw.refl (S:=fun i=>i=C) L).Ao (.inl rfl) l8 _;exact .ret ⟨rfl,(M5.iv c8 fun i hi _=>hi▸f8).less sub,(k5.less sub).trans (c8.mono fun i hi y=>y.2 hi),J.put l8 _⟩
  unfold Mi.Rt at fin⊢;simp only[Gc,dr];refine(Bfw A hK M hb a_).Al ?_;rintro _ h1 ⟨rfl,M1,k1,ao⟩;simp only[I,Ac];by_cases hr:S.ready.2=0
  ·rw[aK (show ¬¬S.ready.2=0 from fun y=>y hr)]at fin⊢
   have op:=Bdk M.wf hr;have au:=(BX S);simp only[hr,aC,aA,Aa,Xq];have a6:=k1.at hb g5 f5;rw[Cv a6 rfl,Ai el]
   try simp only[Aa]
   refine(Bjs A hK a_ M1 ao w As seq).Al ?_;rintro _ h2 ⟨rfl,M2,k2,E⟩;have O:Kf F h h2:=k1.trans k2;have U:=Bre S.ready.1 e As seq;generalize hB:S.ready.1.both e As seq=B at M2 fin U⊢;obtain⟨T,z,o⟩:=B;simp only at M2 fin U⊢;have cc:z≠z->False:=fun y=>y rfl
   simp only[Aa,I,Ac];by_cases h0:o=0
   ·rw[aN h0]at fin⊢
    simp only[h0,aB,Aa,Ar];obtain⟨a7,D,p,bl,ql,np,q,c,G,a⟩:=M2.s;have lm:=E _ _ a.Jb.Jb;have a8:=O.at hb g5 f5;rw[I6 lm,a.Jb.oa]
    try simp only[Aa,Ar]
    rw[I6 lm,a.Jb.ob]
    try simp only[Aa,Ar]
    rw[I6 lm,a.Jb.ou]
    try simp only[Aa,Ar]
    rw[I6 lm,a.Jb.table]
    try simp only[Aa,Ar]
    rw[show ∀k:EV->R,Oa 32 1 (.ptr b5 6) none none none k=k (.slice b5 6 32 32 false)from fun k=>rfl]
    try simp only[Aa,Ar]
    have bs:Bs h2.lift (.slice b5 6 32 32 false) b5 6 e.bytes:=by
     refine⟨32,false,_,e.cells,by rw[w.len],by rw[w.len];omega,by rw[Bv];exact a8,rfl,by rw[el,w.len];exact aD _,?_⟩;unfold En.cells;rw[w.len];show(Bh e.bytes).take 32=_;rw[bK (by rw[Bf,w.len];omega)]
    refine Ok.bE (vH (K:=K) hK bs (Cz E) w.u8 (by rw[w.len];omega)) (fun _ _ p=>p.2) ?_;rintro _ cf Y ⟨rfl,_⟩ _ x3;have W:=x3.hb E;have ch:=zj w.u8;simp only[Nk,Aa];rw[show Cs .i64 (Int.ofNat (Gh e.bytes))=(Gh e.bytes:Int)from Ci (by show -9223372036854775808<=((Gh e.bytes:Nat):Int);omega) (by show((Gh e.bytes:Nat):Int)<=_;omega)];rw[Ax (l:=(⟨1,T.a,T.b,T.u,seq,Gh e.bytes⟩:Me).cells) rfl]
    try simp only[Aa,Ar]
    rw[Hc];refine Ok.st (⟨1,T.a,T.b,T.u,seq,Gh e.bytes⟩:Me).cells (Ad _ _) rfl rfl (Bl rfl) ?_;obtain⟨h4,e_,x4,bb,n4⟩:=nP Y (.cells [EV.int .i64 0,.int .i64 0,.int .i64 0,.int .i64 0,.int .i64 0,.int .i64 0] 87) (.cells (⟨1,T.a,T.b,T.u,seq,Gh e.bytes⟩:Me).cells 87);rw[e_];have ab:=x4.hb W;have aw:Ext h2 h4:=x3.trans x4;have M4:=M2.ext E aw;refine U_ M4 ab ?_;intro L M5 k5 J _ n5 e5;have bf:Bg F h2 h4 Y.next:=.inr ⟨x3.next,a_⟩
    rw[Cv (by rw[e5 _ bf];exact bb) rfl,Ai (n:=6) rfl]
    try simp only[Aa]
    refine fin _ _ L T.lT (M5.less fun i (hi:F i)=>Or.inl hi) (O.trans (aw.nT k5)) J rfl
   ·rw[aK h0]at fin⊢
    simp only[h0,aA,Aa,Ac];by_cases ad:o=34
    ·rw[aN ad]at fin⊢
     simp only[ad,aB,Aa];rw[Ax (l:=Me.zero.cells) rfl];exact fin _ _ h2 T M2 O E rfl
    ·rw[aK ad]at fin⊢
     simp only[ad,aA,Aa,Ys];obtain⟨a7,D,p,bl,ql,np,q,c,G,a⟩:=M2.s;rw[a.Jb.ob];simp only[I,Ac];have hz:0<=D4 T.g z/\¬T.bad z.toNat=1:=by
      obtain⟨e1,e2,e3,e4,_,_,e5⟩:=U;rw[e1,e2];rcases e5 with e5|e5
      ·rw[e5];exact op.1
      ·rw[e5];exact op.2
     have go:∀(Y:Ab),C8 Y m (Mi.Lu (T,z,o)) F->Kf F h Y->HB Y ->
      Ok (Qr (Ag TT disp K d false) (Ag TT disp K d true) K (Gc (Ag TT disp K d false) (Ag TT disp K d true) K f) (.ptr m 0) (I As) (I seq) (.ptr b5 0) (.ptr C 0) (I z) Y) fun v h'=>
       v=.tuple [.agg (if((Mi.Lu (T,z,o)).Bq z).2=34 then(((Mi.Lu (T,z,o)).Bq z).1,Me.zero,(34:Int))else Mi.Rt e As seq n ((Mi.Lu (T,z,o)).Bq z).1).2.1.cells,I (if((Mi.Lu (T,z,o)).Bq z).2=34 then(((Mi.Lu (T,z,o)).Bq z).1,Me.zero,(34:Int))else Mi.Rt e As seq n ((Mi.Lu (T,z,o)).Bq z).1).2.2] /\
        C8 h' m (if((Mi.Lu (T,z,o)).Bq z).2=34 then(((Mi.Lu (T,z,o)).Bq z).1,Me.zero,(34:Int))else Mi.Rt e As seq n ((Mi.Lu (T,z,o)).Bq z).1).1 (fun i=>F i/\¬i=C)/\Kf (fun i=>F i/\¬i=C) h h'/\HB h':=by
      intro Y M3 k3 W;obtain⟨u1,u2,u3,u4⟩:=Bns (T,z,o);simp only at u1 u2 u3 u4;have ag:0<=D4 (Mi.Lu (T,z,o)).g z/\¬(Mi.Lu (T,z,o)).bad z.toNat=1:=by rw[u1,u2];exact hz
      have less:=CB M3.wf ag.1 ag.2;have qg:=A6i (Mi.Lu (T,z,o)) z;simp only[Qr,dr];refine(Y7 A hK M3 W a_ (pt M3.wf.sm ag.1)).Al ?_;rintro _ h4 ⟨rfl,M4,k4,ab⟩;have ae:Kf F h h4:=k3.trans k4;simp only[I,Ac];by_cases hq:((Mi.Lu (T,z,o)).Bq z).2=34
      ·rw[aN hq]at fin⊢
       simp only[hq,aB,Aa];rw[Ax (l:=Me.zero.cells) rfl];exact fin _ _ h4 _ M4 ae ab rfl
      ·rw[aK hq]
       simp only[hq,aA,Aa];have bo:=ae.at hb g5 f5;have bp:=ae.at hb g8 f8;refine(ih f h4 _ F ?_ a_ M4 ab f5 f8 a1 bo bp).mono ?_
       ·rw[qg]
        have e1:(Mi.Lu (T,z,o)).g=S.g:=by rw[u1,U.1,au.1]
        have e2:(Mi.Lu (T,z,o)).bad=S.bad:=by rw[u2,U.2.1,au.2]
        rw[e1,e2]at less;rw[e1];omega
       ·rintro v L ⟨ev,M5,k5,J⟩
        exact⟨ev,M5,(ae.less sub).trans k5,J⟩
     by_cases X:z=T.b
     ·simp only[X,aB,Aa]
      refine U_ M2 E ?_;intro Y M3 k3 W _ _ _;have:=go Y (by unfold Mi.Lu;rw[aN X];exact M3) (O.trans k3) W;rw[X]at this;exact this
     ·simp only[X,aA,Aa]
      exact go h2 (by unfold Mi.Lu;rw[aK X];exact M2) O E
  ·rw[aN hr]at fin⊢
   simp only[hr,aH,aB,Aa];rw[Ax (l:=Me.zero.cells) rfl];exact fin _ _ h1 _ M1 k1 ao rfl
theorem ι(A:Ca disp)(hK:10000<K)(hd:20<=d)(M:C8 h m S F)(hb:HB h)(w:e.Wf)(As seq:Int):
 Ok (Ag TT disp K d false 108 [.ptr m 0,.agg e.cells,I As,I seq] h) fun v h'=>v=.tuple [.agg (S.place e As seq).2.1.cells,I (S.place e As seq).2.2]/\C8 h' m (S.place e As seq).1 F/\Kf F h h'/\HB h':=by
 obtain⟨dd,rfl⟩:=d_ d;rw[Ajx A a_];have el:=En.Ay w;simp only[MQ,Aa];rw[show(h.new (.cells e.cells 151)).next=h.next+1 from rfl];have U:Ext h ((h.new (.cells e.cells 151)).new (.cells Me.zero.cells 87)):=(Aw.new _ _).Da _;have O:((h.new (.cells e.cells 151)).new (.cells Me.zero.cells 87)).get h.next=some (.cells e.cells 151):=by
  rw[Az _ (aO _)];exact Ad _ _
 have L:((h.new (.cells e.cells 151)).new (.cells Me.zero.cells 87)).get (h.next+1)=some (.cells Me.zero.cells 87):=Ad _ _;have n1:((h.new (.cells e.cells 151)).new (.cells Me.zero.cells 87)).next=h.next+2:=rfl
 rw[show(Ds.cells [EV.int .i64 0,.int .i64 0,.int .i64 0,.int .i64 0,.int .i64 0,.int .i64 0] 87)=.cells Me.zero.cells 87 from rfl];generalize (h.new (.cells e.cells 151)).new (.cells Me.zero.cells 87)=h1 at U O L n1⊢;have o:=U.hb hb;rw[Cv O rfl,Ai el]
 try simp only[Aa]
 refine(zx (K:=K) w o hK 0 0 As seq).Al ?_;rintro _ h2 ⟨rfl,W⟩;have X:=W.hb o;have fw:=UL w 0 0 As seq;unfold Mi.place;generalize J3 e 0 0 As seq=fe at fw⊢;obtain⟨f,er⟩:=fe;have fl:=Fr.Ay fw;have zl:=Fr.Ay Fr.G7;simp only[Aa,zD];refine Ok.st f.cells (Ad _ _) rfl (by show Fw f.cells=49;rw[Be,fl]) (Bl (by rw[zl];exact fl.symm)) ?_;obtain⟨u,e_,Y,_,_⟩:=nP h2 (.cells Fr.zero.cells 136) (.cells f.cells 136);rw[e_];have C:=Y.hb X;have E:Ext h u:=(U.trans W).trans Y;have J:Ext h1 u:=W.trans Y;have M3:=M.ext hb E;have O:=J.at o O;have L:=J.at o L;have ln:h.next+2<=u.next:=by have:=J.next;omega
 simp only[I,Ac];by_cases he:er=0
 ·subst he
  simp only[aC,aA,Aa,ak,Yv];have gl:=CH S.bad (S.g.D*S.g.Z).toNat;have:(S.g.D*S.g.Z).toNat<=512:=by
   have h1:=M.wf.sm.d1;have h2:=M.wf.sm.z1;have u:=M.wf.sm.d0;have h4:=M.wf.sm.z0;obtain⟨m0,m1⟩:=Rp (a:=S.g.D) (b:=S.g.Z) (A:=8) (B:=64);omega
  refine(Bde A hK a_ w As seq 1000 K u S (Bg F h u) a_ a_ M3 C (.inr ⟨a_,a_⟩) (.inr ⟨a_,a_⟩) a_ O L).mono ?_;rintro v h4 ⟨ev,M4,k4,aa⟩;refine⟨ev,M4.less fun i (T:F i)=>⟨.inl T,fun y=>by have:=M.lt i T;omega⟩,?_,aa⟩;exact Aw.then (S:=fun i=>¬F i) (Ext.to E) k4 fun i y hl z=>y ⟨.inl z,fun y=>by have:=M.lt i z;omega⟩
 ·simp only[he,aH,aB,Aa,bM]
  rw[Ax (l:=Me.zero.cells) rfl];refine Ok.st Me.zero.cells L rfl rfl (Bl rfl) ?_;rw[Du (Af _ _ _) kH.1 kH.2 rfl];have l8:=C _ _ L;have x4:Ext h (u.put (h.next+1) (.cells Me.zero.cells 87)):=E.Ao (.inr a_) l8 _;exact .ret ⟨rfl,(M.ext hb x4).less fun i (T:F i)=>Or.inl T,x4.kf,C.put l8 _⟩
def Bsv:EV->Nat
 | .int _ n=>n.toNat
 | _=>0
def mE(x:List EV):List Nat:=x.map Bsv
theorem VA(l:List Nat):mE (Bh l)=l:=by
 unfold mE Bh;rw[List.map_map];exact(cr (fun a _=>rfl)).trans (List.map_id l)
theorem U8.Btr {x:List EV}(u:U8 x):Bh (mE x)=x/\∀b∈mE x,b<256:=by
 obtain⟨l,h,rfl⟩:=u;rw[VA];exact⟨rfl,h⟩
theorem Bb1(x:List EV):(mE x).length=x.length:=bT ..
theorem vM{l:List EV}{v w:EV}(o:h.get i=some (.cells l t))(hs:TT.size t=some n)(u:TT.agg t=some true)(B:l.length=n):Gi TT [.c (.ptr i 0) t,.v v,.v w] h=some (.tuple [.agg l,v,w],h):=by
 have C:Jn h i 0 n=some l:=by
  unfold Jn;rw[o];simp only;rw[<-m_];exact Ai B
 unfold Gi;simp only[j5,hs,C,u]
def o8(s:List Nat)(x:Me)(Am Bw:Int):Bool × List Nat:=
 if(hM s Am x.off).2=0/\¬(hM s Am x.off).1.kind=2/\(hM s Am x.off).1.seq=x.seq/\(Vb (hM s Am x.off).1).2=0/\(Vb (hM s Am x.off).1).1.Bw=Bw/\((Gh (Vb (hM s Am x.off).1).1.bytes:Nat):Int)=x.sum
 then(true,(Vb (hM s Am x.off).1).1.bytes)else(false,D8)
def Mi.D9(S:Mi)(x:Me)(Am Bw:Int):Mi × List Nat × Bool × Int:=
 if(S.dr.read Am x.off).2.2=0 then({ S with dr:=(S.dr.read Am x.off).1 },(o8 (mE (S.dr.read Am x.off).2.1) x Am Bw).2,(o8 (mE (S.dr.read Am x.off).2.1) x Am Bw).1,0)else
 if(S.dr.read Am x.off).2.2=34 then({ S with dr:=(S.dr.read Am x.off).1 },D8,false,34)else
 if(S.dr.read Am x.off).2.2=32 then((({ S with dr:=(S.dr.read Am x.off).1 }:Mi).Bq Am).1,D8,false,if(({ S with dr:=(S.dr.read Am x.off).1 }:Mi).Bq Am).2=34 then 34 else 0)else
 ({ S with dr:=(S.dr.read Am x.off).1 },D8,false,0)
theorem Blj(A:Ca disp)(hK:10000<K)(hd:19<=d)(M:C8 h m S F)(hb:HB h){z:Int}(C:Vv z):
 Ok (Ag TT disp K d false 163 [.ptr m 0,I z] h) fun v h'=>v=I (if(S.Bq z).2=34 then 34 else 0)/\C8 h' m (S.Bq z).1 F/\Kf F h h'/\HB h':=by
 obtain⟨e,rfl⟩:=d_ d;rw[Alp A a_];simp only[JD,dr];refine(Y7 A hK M hb a_ C).Al ?_;rintro _ E ⟨rfl,u,B,o⟩;simp only[I,Ac,Zz];by_cases h0:(S.Bq z).2=34
 ·simp only[h0,aB,Aa,bM]
  exact .ret ⟨rfl,u,B,o⟩
 ·simp only[h0,aA,Aa,ak]
  exact .ret ⟨rfl,u,B,o⟩
theorem ji:TT.size 81=some 32/\TT.agg 81=some true:=⟨by kernel_rfl,by kernel_rfl⟩
theorem mK:D8.length=32:=rfl
theorem VB(w:f.Wf):(Vb f).1.Wf:=by
 unfold Vb;split
 ·exact En.G7
 ·split
  ·exact En.G7
  ·exact UO w.len w.u8
theorem Bjd {s:List Nat}(o:s.length=64)(hu:∀b∈s,b<256)(x:Me)(Am Bw:Int)(w:(hM s Am x.off).1.Wf):(o8 s x Am Bw).2.length=32/\∀b∈(o8 s x Am Bw).2,b<256:=by
 unfold o8;split
 ·exact⟨(VB w).len,(VB w).u8⟩
 ·exact⟨rfl,fun b hb=>by rw[cC hb];decide⟩
theorem VC(A:Ca disp)(hK:10000<K)(hd:20<=d)(M:C8 h m S F)(hb:HB h)(x:Me){Am:Int}(hz:Vv Am)(Bw:Int):
 Ok (Ag TT disp K d false 112 [.ptr m 0,.agg x.cells,I Am,I Bw] h) fun v h'=>v=.tuple [.agg (Bh (S.D9 x Am Bw).2.1),.bool (S.D9 x Am Bw).2.2.1,I (S.D9 x Am Bw).2.2.2]/\(S.D9 x Am Bw).2.1.length=32/\(∀b∈(S.D9 x Am Bw).2.1,b<256)/\C8 h' m (S.D9 x Am Bw).1 F/\Kf F h h'/\HB h':=by
 obtain⟨dd,rfl⟩:=d_ d;rw[Al2 A a_];simp only[MR,Aa];rw[show(h.new (.cells x.cells 87)).next=h.next+1 from rfl,Gq];have x1:Ext h ((h.new (.cells x.cells 87)).new (.cells (Bh D8) 81)):=(Aw.new _ _).Da _;have E:((h.new (.cells x.cells 87)).new (.cells (Bh D8) 81)).get h.next=some (.cells x.cells 87):=by
  rw[Az _ (aO _)];exact Ad _ _
 have C:((h.new (.cells x.cells 87)).new (.cells (Bh D8) 81)).get (h.next+1)=some (.cells (Bh D8) 81):=Ad _ _;have n1:((h.new (.cells x.cells 87)).new (.cells (Bh D8) 81)).next=h.next+2:=rfl
 generalize (h.new (.cells x.cells 87)).new (.cells (Bh D8) 81)=h1 at x1 E C n1⊢;have U:=x1.hb hb;have M1:=M.ext hb x1;obtain⟨_,D,p,bl,ql,np,q,c,G,a⟩:=M1.s;have lm:=U _ _ a.Jb.Jb;have l5:=U _ _ E;have F5:Bg F h h1 h.next:=.inr ⟨aD _,a_⟩
 have F8:Bg F h h1 (h.next+1):=.inr ⟨a_,a_⟩;rw[I6 lm,a.Jb.C0]
 try simp only[Aa,Ar]
 rw[I6 l5,Ak E rfl (v:=I x.off) rfl]
 try simp only[Aa,Ar]
 refine Ok.bC (S:=G) (A8d (K:=K) A (d:=dd) a_ (fun k hk=>th A a_ S.dr k hk) a.drv.lift (Cz U) Am x.off) (fun _ _ p=>p.2.2.2.1) ?_;rintro _ h2 h3 s' ⟨rfl,hlen,d2,_,bt⟩ sm c3 bu;have ae:=sm.hb bt;have bw:U8 (S.dr.read Am x.off).2.1:=by
  obtain⟨V,M',qc,qh,cs,hs,ms,F',a'⟩:=d2.Ly;have w:=a'.dev.wf;have wz:∀i,i<(S.dr.begin Am).dv.n->((S.dr.begin Am).dv.zs i).Wf (S.dr.begin Am).dv.size:=by
   have e1:(S.dr.read Am x.off).1.dv=(S.dr.begin Am).dv.begin Am:=rfl;rw[e1]at w;unfold Dv.begin at w;split at w
   ·exact w.zs
   ·exact w.zs
  show U8 (Dv.read _ Am x.off).1;unfold Dv.read;split
  ·exact U8.zs
  next bx=>
   obtain⟨j,rfl,hj⟩:=Dv.sT (show(S.dr.begin Am).dv.Ez Am=0 by
    rcases Decidable.em ((S.dr.begin Am).dv.Ez Am=0)with y|y
    ·exact y
    ·exact absurd y bx)
   unfold jM;split
   ·exact U8.zs
   ·split
    next hc=>
     have:x.off.toNat<((S.dr.begin (j:Int)).dv.zs j).l.length:=by
      have:=hc.2;rw[bJ]at this;omega
     rw[bJ,aF this];exact(wz j hj).u8 _ (aZ _)
    ·exact U8.zs
 obtain⟨M3,k3⟩:=M1.drv U a (d2.same sm) c3;have E:=k3.at U E F5;have C:=k3.at U C F8;obtain⟨hs,ab⟩:=bw.Btr;have O:(mE (S.dr.read Am x.off).2.1).length=64:=by rw[Bb1,hlen]
 unfold Mi.D9;rw[<-hs];generalize hR:S.dr.read Am x.off=R at M3 hs ab O⊢;obtain⟨dr,sec,er⟩:=R;simp only at M3 hs ab O⊢;rw[VA];generalize mE sec=s at hs ab O⊢;simp only[Aa,Ar];rw[Hc (by rcases bu with rfl|⟨w,rfl,_⟩<;>kernel_rfl)];have ul:(Bh s).length=64:=by rw[Bf,O]
 refine Ok.st (Bh s) (Ad _ _) rfl (by show Fw (Bh s)=64;rw[Be,ul]) (Bl (by rw[bW];exact ul.symm)) ?_;obtain⟨h4,e_,x4,ay,_⟩:=nP h3 (.cells (List.replicate 64 (EV.int .u8 0)) 32) (.cells (Bh s) 32);rw[e_];have o:=x4.hb ae;have E:=x4.at ae E;have C:=x4.at ae C;have M4:=(M3.ext ae x4).less fun i (W:Bg F h h1 i)=>Or.inl W
 have af:Kf F h h4:=(x1.nT k3).trans x4.kf;have ln:h.next+2<=h4.next:=by have:=x4.next;have:=k3.next;omega
 have sub:∀i,F i->Bg F h h1 i:=fun i W=>.inl W
 have fin:∀(l:List Nat) (ok:Bool) (er:Int) (u:Ab) (S5:Mi),l.length=32->(∀b∈l,b<256)->C8 u m S5 (Bg F h h1)->Kf F h u->HB u->u.get (h.next+1)=some (.cells (Bh D8) 81) ->
  Ok (Vz 32 (.ptr (h.next+1) 0) (.agg (Bh l)) u fun h'=>Gi TT [.c (.ptr (h.next+1) 0) 81,.v (.bool ok),.v (I er)] h') fun v h'=>v=.tuple [.agg (Bh l),.bool ok,I er]/\l.length=32/\(∀b∈l,b<256)/\C8 h' m S5 F/\Kf F h h'/\HB h':=by
  intro l ok er u S5 hl b5 M5 k5 L ag;have ul:(Bh l).length=32:=by rw[Bf,hl]
  have l8:=L _ _ ag;refine Ok.st (Bh l) ag rfl (by show Fw (Bh l)=32;rw[Be,ul]) (Bl (by show(Bh D8).length=(Bh l).length;rw[ul,Bf,mK])) ?_;rw[vM (Af _ _ _) ji.1 ji.2 ul];have nF:¬F (h.next+1):=fun y=>by have:=M.lt _ y;omega
  have c8:Aw (fun i=>i=h.next+1) u (u.put (h.next+1) (.cells (Bh l) 81)):=(Aw.refl (S:=fun i=>i=h.next+1) u).Ao (.inl rfl) l8 _;exact .ret ⟨rfl,hl,b5,(M5.iv c8 fun i W _=>W▸F8).less sub,k5.trans (c8.mono fun i W y=>nF (W▸y)),L.put l8 _⟩
 have no:∀(er:Int) (u:Ab) (S5:Mi),C8 u m S5 (Bg F h h1)->Kf F h u->HB u->u.get (h.next+1)=some (.cells (Bh D8) 81) ->
  Ok (Bp (N8 1) (List.replicate 32 (EV.int .u8 0)) [] fun v=>Vz 32 (.ptr (h.next+1) 0) v u fun h'=>Gi TT [.c (.ptr (h.next+1) 0) 81,.v (.bool false),.v (I er)] h') fun v h'=>v=.tuple [.agg (Bh D8),.bool false,I er]/\D8.length=32/\(∀b∈D8,b<256)/\C8 h' m S5 F/\Kf F h h'/\HB h':=fun er u S5 M5 k5 L ag=>by
  rw[Gq,Ax (l:=Bh D8) rfl];exact fin D8 false er u S5 rfl (fun b hb=>by rw[cC hb];decide) M5 k5 L ag
 simp only[I,Ac];by_cases h0:er=0
 ·rw[aN h0]
  simp only[h0,aB,Aa,Zk];have b6:=o _ _ ay;have b8:=o _ _ E;obtain⟨_,D,p,bl,ql,np,q,c,G,a⟩:=M4.s;have ca:=o _ _ a.Jb.Jb
  try simp only[Ar]
  rw[I6 ca,a.Jb.table]
  try simp only[Aa,Ar]
  rw[I6 b6,Cv ay rfl,Ai ul]
  try simp only[Aa,Ar]
  rw[I6 b8,Ak E rfl (v:=I x.off) rfl]
  try simp only[Aa,Ar]
  refine Ok.bE (SQ (K:=K) O ab (Cz o) hK Am x.off) (fun _ _ p=>p.2.2) ?_;rintro _ dD u ⟨rfl,fw,_⟩ _ x5;have gw:=Bjd O ab x Am Bw fw;have J:o8 s x Am Bw=if(hM s Am x.off).2=0/\¬(hM s Am x.off).1.kind=2/\(hM s Am x.off).1.seq=x.seq/\(Vb (hM s Am x.off).1).2=0/\(Vb (hM s Am x.off).1).1.Bw=Bw/\((Gh (Vb (hM s Am x.off).1).1.bytes:Nat):Int)=x.sum
   then(true,(Vb (hM s Am x.off).1).1.bytes)else(false,D8):=rfl
  generalize o8 s x Am Bw=gd at J gw⊢;generalize hM s Am x.off=Ly at fw J⊢;obtain⟨f,cb⟩:=Ly;simp only at fw J⊢;have L:=x5.hb o;have fl:=Fr.Ay fw;have zl:=Fr.Ay Fr.G7;simp only[Aa,zD,Ar];rw[Hc];refine Ok.st f.cells (Ad _ _) rfl (by show Fw f.cells=49;rw[Be,fl]) (Bl (by rw[zl];exact fl.symm)) ?_;obtain⟨h6,e_,x6,ah,_⟩:=nP u (.cells Fr.zero.cells 136) (.cells f.cells 136);rw[e_];have X:=x6.hb L;have ai:Ext h4 h6:=x5.trans x6;have E:=ai.at o E;have C:=ai.at o C;have M6:=(M4.ext o ai).less fun i (W:Bg F h h1 i)=>Or.inl W
  have a5:Kf F h h6:=af.trans ai.kf;have stop:=no 0 h6 _ M6 a5 X C;have l0:f.cells[0]? = some (I f.kind):=rfl;have l4:f.cells[4]? = some (I f.seq):=rfl;simp only[I,Ac]at stop⊢;by_cases c1:cb=0
  ·by_cases c2:f.kind=2
   ·rw[aK (by rintro⟨_,y,_⟩;exact y c2)]at J;subst J
    simp only[c1,aC,aA,Aa,Cy ah rfl,l0,I,Ac,c2,aB,Jg,Jh];exact stop
   ·by_cases c3:f.seq=x.seq
    ·simp only[c1,aC,aA,Aa,Cy ah rfl,l0,I,Ac,c2,Jg,l4,Jh]
     rw[Ak E rfl (v:=I x.seq) rfl];simp only[I,Ac,c3,aC,aA,Aa,Zm];rw[Cv ah rfl,Ai fl]
     try simp only[Aa]
     refine(A20 (K:=K) fw X hK).Al ?_;rintro _ h7 ⟨rfl,T,x7⟩;generalize Vb f=re at T J⊢;obtain⟨e,cc⟩:=re;simp only at T J⊢;have cf:=x7.hb X;have el:=En.Ay T;have ch:=En.Ay En.G7;simp only[Aa];rw[En.Ii];refine Ok.st e.cells (Ad _ _) rfl (by show Fw e.cells=38;rw[Be,el]) (Bl (by rw[ch];exact el.symm)) ?_;obtain⟨h8,e_,x8,Y,_⟩:=nP h7 (.cells En.zero.cells 151) (.cells e.cells 151);rw[e_];have B:=x8.hb cf;have aj:Ext h6 h8:=x7.trans x8;have E:=aj.at X E;have C:=aj.at X C;have M8:=(M6.ext X aj).less fun i (W:Bg F h h1 i)=>Or.inl W
     have a7:Kf F h h8:=a5.trans aj.kf;have stop:=no 0 h8 _ M8 a7 B C;have cw:=B _ _ Y;have cx:=B _ _ E;simp only[I,Ac]at stop⊢;by_cases c4:cc=0
     ·simp only[c4,aC,aA,Aa,Ar]
      rw[I6 cw,Ak Y rfl (v:=I e.Bw) rfl];simp only[I,Ac];by_cases c5:e.Bw=Bw
      ·simp only[c5,aC,aA,Je,Aa,Ar]
       obtain⟨_,D,p,bl,ql,np,q,c,G,a⟩:=M8.s;have cA:=B _ _ a.Jb.Jb;rw[I6 cA,a.Jb.table]
       try simp only[Aa,Ar]
       rw[show ∀k:EV->R,Oa 32 1 (.ptr h7.next 6) none none none k=k (.slice h7.next 6 32 32 false)from fun k=>rfl]
       try simp only[Aa,Ar]
       have bs:Bs h8.lift (.slice h7.next 6 32 32 false) h7.next 6 e.bytes:=by
        refine⟨32,false,_,e.cells,by rw[T.len],by rw[T.len];omega,by rw[Bv];exact Y,rfl,by rw[el,T.len];exact aD _,?_⟩;unfold En.cells;rw[T.len];show(Bh e.bytes).take 32=_;rw[bK (by rw[Bf,T.len];omega)]
       refine Ok.bE (vH (K:=K) hK bs (Cz B) T.u8 (by rw[T.len];omega)) (fun _ _ p=>p.2) ?_;rintro _ ea h9 ⟨rfl,_⟩ _ x9;have a8:=x9.hb B;have E:=x9.at B E;have C:=x9.at B C;have Y:=x9.at B Y;have M9:=(M8.ext B x9).less fun i (W:Bg F h h1 i)=>Or.inl W
       have ba:Kf F h h9:=a7.trans x9.kf;have stop:=no 0 h9 _ M9 ba a8 C;have O:=zj T.u8;simp only[Nk,Aa,Ar];rw[show Cs .i64 (Int.ofNat (Gh e.bytes))=(Gh e.bytes:Int)from Ci (by show -9223372036854775808<=((Gh e.bytes:Nat):Int);omega) (by show((Gh e.bytes:Nat):Int)<=_;omega)];rw[I6 cx,Ak E rfl (v:=I x.sum) rfl];simp only[I,Ac]at stop⊢;by_cases c6:((Gh e.bytes:Nat):Int)=x.sum
       ·rw[aN ⟨c1,c2,c3,c4,c5,c6⟩]at J;subst J
        simp only[c6,aC,aA,Gu,Aa,Zr];rw[Cv Y rfl,show Ke e.cells (0+6) 32=some (Bh e.bytes)from by
         rw[E4 (by rw[el];omega)];show some ((Bh e.bytes).take 32)=_;rw[bK (by rw[Bf,T.len];omega)]]
        try simp only[Aa]
        exact fin e.bytes true 0 h9 _ T.len T.u8 M9 ba a8 C
       ·rw[aK (by rintro⟨_,_,_,_,_,y⟩;exact c6 y)]at J;subst J
        simp only[c6,aH,aB,Gu,Aa];exact stop
      ·rw[aK (by rintro⟨_,_,_,_,y,_⟩;exact c5 y)]at J;subst J
       simp only[c5,aH,aB,Je,Aa,Gu];exact stop
     ·rw[aK (by rintro⟨_,_,_,y,_⟩;exact c4 y)]at J;subst J
      simp only[c4,aH,aB,Je,Aa,Gu];exact stop
    ·rw[aK (by rintro⟨_,_,y,_⟩;exact c3 y)]at J;subst J
     simp only[c1,aC,aA,Aa,Cy ah rfl,l0,I,Ac,c2,Jg,l4,Jh];rw[Ak E rfl (v:=I x.seq) rfl];simp only[I,Ac,c3,aH,aB,Aa];exact stop
  ·rw[aK (by rintro⟨y,_⟩;exact c1 y)]at J;subst J
   simp only[c1,aH,aB,Aa,Jg,Jh];exact stop
 ·rw[aK h0]
  simp only[h0,aA,Aa,Ac];by_cases al:er=34
  ·rw[aN al]
   simp only[al,aB,Aa];exact no 34 h4 _ M4 af o C
  ·rw[aK al]
   simp only[al,aA,Aa,Ac];by_cases ao:er=32
   ·rw[aN ao]
    simp only[ao,aB,Aa];rw[Ax (l:=Bh D8) rfl];refine(Blj A hK a_ M4 o hz).Al ?_;rintro _ u ⟨rfl,M5,k5,L⟩;have C:=k5.at o C F8;have cG:Kf F h4 u:=k5.less sub;exact fin D8 false _ u _ rfl (fun b hb=>by rw[cC hb];decide) M5 (af.trans cG) L C
   ·rw[aK ao]
    simp only[ao,aA,Aa];exact no 0 h4 _ M4 af o C
section
def qs(g:Gm)(x:Me):Bool:=decide (x.state=1)&&o9 g x
theorem VD(M:C8 h m S F)(hb:HB h){x:Me}(E:Vv x.Am)(hm:Vv x.Bw):
 Ok (Lc K (.ptr m 0) (.agg x.cells) h) fun v h'=>v=.bool (qs S.g x)/\Ext h h':=by
 simp only[Lc,Aa];obtain⟨T,J,u,B,_⟩:=nW h (.cells x.cells 87);rw[J];have o:=u.hb hb;obtain⟨_,D,p,bl,ql,np,q,c,G,a⟩:=M.s.ext hb u;have C:=o _ _ B;have lm:=o _ _ a.Jb.Jb;rw[I6 C,Ak B rfl (v:=I x.state) rfl];simp only[I,Ac];unfold qs;by_cases h0:x.state=1
 ·simp only[h0,aB,Aa,Ar,bF]
  rw[I6 C,Cv B rfl,Ai (n:=6) rfl]
  try simp only[Aa,Ar]
  rw[I6 lm,a.Jb.oY]
  try simp only[Aa,Ar]
  refine Ok.bE (zJ (K:=K) (Cz o) h0 E hm) (fun _ _ p=>p.2) ?_;rintro _ L h2 ⟨rfl,_⟩ _ O;simp only[Lo,Aa];exact .ret ⟨rfl,u.trans O⟩
 ·simp only[h0,aA,Aa,Ar,bB,Lo]
  exact .ret ⟨rfl,u⟩
section
variable (A:Ca disp)(hK:10000<K)(hd:20<=d)(M:C8 h m S F)(hb:HB h)(x:Me)
include A hK hd M hb
theorem VE {ih:EV->EV->EV->EV->EV->Ab->R}{u:EV}{z mt:Int}(hz:Vv z)(X:∀k:EV->R,j8 2 2 true 2 u (.int .i64 (i:Int)) k=k (.agg [I z,I mt]))(f3:F b3)(f4:F b4)
 (g3:h.get b3=some (.cells x.cells 87)) (g4:h.get b4=some (.cells (Bh D8) 81))
 (B:(S.D9 x z mt).2.2.1=true\/¬(S.D9 x z mt).2.2.2=0->∀h',C8 h' m (S.D9 x z mt).1 F->Kf (fun i=>F i/\¬i=b4) h h'->HB h'->((S.D9 x z mt).2.1.length=32/\∀b∈(S.D9 x z mt).2.1,b<256)->Q (.tuple [.agg (Bh (S.D9 x z mt).2.1),I (S.D9 x z mt).2.2.2]) h')
 (E:¬((S.D9 x z mt).2.2.1=true\/¬(S.D9 x z mt).2.2.2=0)->∀h',C8 h' m (S.D9 x z mt).1 F->Kf F h h'->HB h'->Ok (Nb (Ag TT disp K d false) (Ag TT disp K d true) K ih (.ptr m 0) (.ptr b3 0) (.ptr b4 0) u (.int .i64 (i:Int)) h') Q) :
 Ok (Rl (Ag TT disp K d false) (Ag TT disp K d true) K ih (.ptr m 0) (.ptr b3 0) (.ptr b4 0) u (.int .i64 (i:Int)) h) Q:=by
 simp only[Rl,X,Aa];refine Ok.st [I z,I mt] (Ad _ _) rfl rfl rfl ?_;obtain⟨h1,Y,W,g7,_⟩:=nP h (.cells [EV.int .i64 0,.int .i64 0] 189) (.cells [I z,I mt] 189);rw[Y];have aa:=W.hb hb;have M1:=M.ext hb W;have sub:∀i,F i->Bg F h h1 i:=fun i o=>.inl o
 rw[Cv (W.at hb g3) rfl,Ai (n:=6) rfl]
 try simp only[Aa]
 rw[show ∀k:EV->R,jR 2 1 (.ptr h.next 0) (.int .i64 0) k=k (.ptr h.next 0)from fun k=>rfl,Ak g7 rfl (v:=I z) rfl];rw[show ∀k:EV->R,jR 2 1 (.ptr h.next 0) (.int .i64 1) k=k (.ptr h.next 1)from fun k=>rfl,Ak g7 rfl (v:=I mt) rfl];refine(VC A hK hd M1 aa x hz mt).Al ?_;rintro _ h2 ⟨rfl,bl,bu,M2,k2,U⟩;have ad:Kf F h h2:=W.nT k2;generalize S.D9 x z mt=C at B E bl bu M2⊢;obtain⟨T,l,ok,er⟩:=C;simp only at B E bl bu M2⊢;have ul:(Bh l).length=32:=by rw[Bf,bl]
 simp only[Aa,Gq];refine Ok.st (Bh l) (Ad _ _) rfl (by show Fw (Bh l)=32;rw[Be,ul]) (Bl (by show(Bh D8).length=(Bh l).length;rw[ul,Bf,mK])) ?_;obtain⟨J,Y,x3,g8,_⟩:=nP h2 (.cells (Bh D8) 81) (.cells (Bh l) 81);rw[Y];have L:=x3.hb U;have M3:=(M2.ext U x3).less fun i (o:F i)=>Or.inl (sub i o)
 have O:Kf F h J:=ad.trans x3.kf;have g4:=O.at hb g4 f4;have l4:=L _ _ g4;have stop:(ok=true\/¬er=0)->Ok (Oo 32 (.ptr h2.next 0) J fun ag=>Vz 32 (.ptr b4 0) ag J fun h=>Gi TT [.c (.ptr b4 0) 81,.v (I er)] h) Q:=fun hc=>by
  rw[Cv g8 rfl,Ai ul]
  try simp only[Aa]
  refine Ok.st (Bh l) g4 rfl (by show Fw (Bh l)=32;rw[Be,ul]) (Bl (by show(Bh D8).length=(Bh l).length;rw[ul,Bf,mK])) ?_;rw[Du (Af _ _ _) ji.1 ji.2 ul];have c8:Aw (fun i=>i=b4) J (J.put b4 (.cells (Bh l) 81)):=(Aw.refl (S:=fun i=>i=b4) J).Ao (.inl rfl) l4 _;exact .ret (B hc _ (M3.iv c8 fun i o _=>o▸f4) ((O.less fun i o=>o.1).trans (c8.mono fun i o y=>y.2 o)) (L.put l4 _) ⟨bl,bu⟩)
 simp only[I,Ac]at stop⊢;cases ok with
 | true=>
  simp only[Aa,Ac,Rv];exact stop (.inl rfl)
 | false=>
  simp only[Aa,Ac,Rv];by_cases h0:er=0
  ·simp only[h0,aC,aA,Aa]
   exact E (by rw[h0];simp) J M3 O L
  ·simp only[h0,aH,aB,Aa]
   exact stop (.inr h0)
end
def Mi.read(S:Mi)(x:Me):Mi × List Nat × Int:=
 if qs S.g x=false then(S,D8,10)else
 if(S.D9 x x.Am x.Bw).2.2.1=true\/¬(S.D9 x x.Am x.Bw).2.2.2=0 then((S.D9 x x.Am x.Bw).1,(S.D9 x x.Am x.Bw).2.1,(S.D9 x x.Am x.Bw).2.2.2)else
 if((S.D9 x x.Am x.Bw).1.D9 x x.Bw x.Am).2.2.1=true\/¬((S.D9 x x.Am x.Bw).1.D9 x x.Bw x.Am).2.2.2=0 then(((S.D9 x x.Am x.Bw).1.D9 x x.Bw x.Am).1,((S.D9 x x.Am x.Bw).1.D9 x x.Bw x.Am).2.1,((S.D9 x x.Am x.Bw).1.D9 x x.Bw x.Am).2.2.2)else
 (((S.D9 x x.Am x.Bw).1.D9 x x.Bw x.Am).1,D8,41)
theorem ν(A:Ca disp)(hK:10000<K)(hd:21<=d)(M:C8 h m S F)(hb:HB h){x:Me}(hz:Vv x.Am)(hm:Vv x.Bw):
 Ok (Ag TT disp K d false 121 [.ptr m 0,.agg x.cells] h) fun v h'=>v=.tuple [.agg (Bh (S.read x).2.1),I (S.read x).2.2]/\((S.read x).2.1.length=32/\∀b∈(S.read x).2.1,b<256)/\C8 h' m (S.read x).1 F/\Kf F h h'/\HB h':=by
 obtain⟨dd,rfl⟩:=d_ d;rw[Ak6 A a_];simp only[LN,Aa];rw[show(h.new (.cells x.cells 87)).next=h.next+1 from rfl,Gq];have x1:Ext h ((h.new (.cells x.cells 87)).new (.cells (Bh D8) 81)):=(Aw.new _ _).Da _;have B:((h.new (.cells x.cells 87)).new (.cells (Bh D8) 81)).get h.next=some (.cells x.cells 87):=by
  rw[Az _ (aO _)];exact Ad _ _
 have g4:((h.new (.cells x.cells 87)).new (.cells (Bh D8) 81)).get (h.next+1)=some (.cells (Bh D8) 81):=Ad _ _;have n1:((h.new (.cells x.cells 87)).new (.cells (Bh D8) 81)).next=h.next+2:=rfl
 generalize (h.new (.cells x.cells 87)).new (.cells (Bh D8) 81)=h1 at x1 B g4 n1⊢;have E:=x1.hb hb;have M1:=M.ext hb x1;rw[Cv B rfl,Ai (n:=6) rfl]
 try simp only[Aa]
 refine(VD (K:=K) M1 E hz hm).Al ?_;rintro _ h2 ⟨rfl,W⟩;have u:=W.hb E;have X:Ext h h2:=x1.trans W;have M2:=M.ext hb X;have B:=W.at E B;have g4:=W.at E g4;have ln:=W.next
 have f3:Bg F h h2 h.next:=.inr ⟨aD _,a_⟩
 have f4:Bg F h h2 (h.next+1):=.inr ⟨a_,a_⟩;have sub:∀i,F i->Bg F h h2 i:=fun i J=>.inl J
 have back:∀h',Kf (fun i=>Bg F h h2 i/\¬i=h.next+1) h2 h'->Kf F h h':=fun h' k=>
  Aw.then (S:=fun i=>¬F i) (Ext.to X) k fun i y hl z=>y ⟨.inl z,fun y=>by have:=M.lt i z;omega⟩
 have fin:∀(C:Ab) (T:Mi) (er:Int),C8 C m T (Bg F h h2)->Kf (Bg F h h2) h2 C->HB C ->
  Ok (Bp (N8 1) (Bh D8) [] fun v=>Vz 32 (.ptr (h.next+1) 0) v C fun h'=>Gi TT [.c (.ptr (h.next+1) 0) 81,.v (I er)] h') fun v h'=>v=.tuple [.agg (Bh D8),I er]/\(D8.length=32/\∀b∈D8,b<256)/\C8 h' m T F/\Kf F h h'/\HB h':=by
  intro C T er Y L o;have g4:=L.at u g4 f4;have l4:=o _ _ g4;rw[Ax (l:=Bh D8) rfl];refine Ok.st (Bh D8) g4 rfl rfl (Bl rfl) ?_;rw[Du (Af _ _ _) ji.1 ji.2 rfl];have c8:Aw (fun i=>i=h.next+1) C (C.put (h.next+1) (.cells (Bh D8) 81)):=(Aw.refl (S:=fun i=>i=h.next+1) C).Ao (.inl rfl) l4 _;exact .ret ⟨rfl,⟨rfl,fun b hb=>by rw[cC hb];decide⟩,(Y.iv c8 fun i J _=>J▸f4).less sub,back _ ((L.less fun i J=>J.1).trans (c8.mono fun i J y=>y.2 J)),o.put l4 _⟩
 unfold Mi.read;cases hl:qs S.g x with
 | false=>
  simp only[Aa,bM];exact fin h2 S 10 M2 (Aw.refl _) u
 | true=>
  rw[aK (by simp)];simp only[Aa,Zx];rw[Ak B rfl (v:=I x.Am) rfl]
  try simp only[Aa]
  rw[Ak B rfl (v:=I x.Bw) rfl,Ax (l:=[I x.Am,I x.Bw]) rfl]
  try simp only[Aa]
  rw[Ak B rfl (v:=I x.Bw) rfl]
  try simp only[Aa]
  rw[Ak B rfl (v:=I x.Am) rfl,Ax (l:=[I x.Bw,I x.Am]) rfl,Ax (l:=[I x.Am,I x.Bw,I x.Bw,I x.Am]) rfl];obtain⟨k,rfl⟩:∃k,K=k+3:=⟨K-3,a_⟩;rw[show Dn (Ag TT disp (k+3) dd false) (Ag TT disp (k+3) dd true) (k+3) (k+3)=Dn (Ag TT disp (k+3) dd false) (Ag TT disp (k+3) dd true) (k+3) (k+2+1)from rfl];rw[Dn];simp only[Ac,show decide ((0:Int)<2)=true from rfl,Aa];refine VE A hK a_ M2 u x (i:=0) hz (fun k=>rfl) f3 f4 B g4 ?_ ?_
  ·intro O C Y L o bl
   rw[aN O];exact⟨rfl,bl,Y.less sub,back _ L,o⟩
  ·intro O C Y L o
   rw[aK O];simp only[Nb,Ac];rw[show Cs .i64 (((0:Nat):Int)+1)=((1:Nat):Int)from rfl];rw[show Dn (Ag TT disp (k+3) dd false) (Ag TT disp (k+3) dd true) (k+3) (k+2)=Dn (Ag TT disp (k+3) dd false) (Ag TT disp (k+3) dd true) (k+3) (k+1+1)from rfl];rw[Dn];simp only[Ac,show decide (((1:Nat):Int)<2)=true from rfl,Aa];have ad:=L.at u B f3;have ae:=L.at u g4 f4;refine VE A hK a_ Y o x (i:=1) hm (fun k=>rfl) f3 f4 ad ae ?_ ?_
   ·intro O h4 M4 k4 U bl
    rw[aN O];exact⟨rfl,bl,M4.less sub,back _ ((L.less fun i J=>J.1).trans k4),U⟩
   ·intro O h4 M4 k4 U
    rw[aK O];simp only[Nb,Ac];rw[show Cs .i64 (((1:Nat):Int)+1)=((2:Nat):Int)from rfl];rw[Dn];simp only[Ac,show decide (((2:Nat):Int)<2)=false from rfl,Aa,Zt,Gq];exact fin h4 _ 41 M4 (L.trans k4) U
section
variable (A:Ca disp)(hK:10000<K)(hd:20<=d){b7:Nat}(M:C8 h m S F)(hb:HB h)(x:Me)
include A hK hd M hb
theorem VF{v30:EV}{z mt:Int}{l0:List Nat}{gd:Nat}(hn:n<=10)(bf:gd<=10)(X:l0.length=32)(hz:Vv z)(al:∀k:EV->R,j8 2 2 true 2 v30 (.int .i64 (i:Int)) k=k (.agg [I z,I mt]))(f3:F b3)(f4:F b4)(f7:F b7)(bj:b4≠b7)
 (g3:h.get b3=some (.cells x.cells 87)) (g4:h.get b4=some (.cells (Bh D8) 81)) (Y:h.get b7=some (.cells (Bh l0) 81))
 (U:¬(S.D9 x z mt).2.2.2=0->∀h',C8 h' m (S.D9 x z mt).1 F->Kf (fun i=>F i/\¬i=b4/\¬i=b7) h h'->HB h'->Q (.tuple [.agg (Bh D8),I 0,I (S.D9 x z mt).2.2.2]) h')
 (B:(S.D9 x z mt).2.2.2=0->∀h',C8 h' m (S.D9 x z mt).1 F->Kf (fun i=>F i/\¬i=b7) h h'->HB h'->(if(S.D9 x z mt).2.2.1=true then(S.D9 x z mt).2.1 else l0).length=32 ->
  h'.get b7=some (.cells (Bh (if(S.D9 x z mt).2.2.1=true then(S.D9 x z mt).2.1 else l0)) 81) ->
  Ok (Ik (Ag TT disp K d false) (Ag TT disp K d true) K ih (.ptr m 0) (.ptr b3 0) (.ptr b4 0) (.ptr b7 0) (I ((if(S.D9 x z mt).2.2.1=true/\(S.D9 x z mt).1.Ja z=false then n+1 else n:Nat):Int)) (I ((if(S.D9 x z mt).2.2.1=true then gd+1 else gd:Nat):Int)) v30 (.int .i64 (i:Int)) h') Q) :
 Ok (Qy (Ag TT disp K d false) (Ag TT disp K d true) K ih (.ptr m 0) (.ptr b3 0) (.ptr b4 0) (.ptr b7 0) (I (n:Int)) (I (gd:Int)) v30 (.int .i64 (i:Int)) h) Q:=by
 simp only[Qy,al,Aa];refine Ok.st [I z,I mt] (Ad _ _) rfl rfl rfl ?_;obtain⟨h1,e_,x1,o,n1⟩:=nP h (.cells [EV.int .i64 0,.int .i64 0] 189) (.cells [I z,I mt] 189);rw[e_];have aa:=x1.hb hb;have M1:=M.ext hb x1;have aq:Bg F h h1 h.next:=.inr ⟨aD _,a_⟩
 have sub:∀i,F i->Bg F h h1 i:=fun i u=>.inl u
 rw[Cv (x1.at hb g3) rfl,Ai (n:=6) rfl]
 try simp only[Aa]
 rw[show ∀k:EV->R,jR 2 1 (.ptr h.next 0) (.int .i64 0) k=k (.ptr h.next 0)from fun k=>rfl,Ak o rfl (v:=I z) rfl];rw[show ∀k:EV->R,jR 2 1 (.ptr h.next 0) (.int .i64 1) k=k (.ptr h.next 1)from fun k=>rfl,Ak o rfl (v:=I mt) rfl];refine(VC A hK hd M1 aa x hz mt).Al ?_;rintro _ h2 ⟨rfl,bl,bu,M2,k2,W⟩;have au:Kf F h h2:=x1.nT k2;have o:=k2.at aa o aq;generalize S.D9 x z mt=C at U B bl bu M2⊢;obtain⟨T,l,ok,er⟩:=C;simp only at U B bl bu M2⊢;have ul:(Bh l).length=32:=by rw[Bf,bl]
 have aw:(Bh l0).length=32:=by rw[Bf,X]
 simp only[Aa,Gq];refine Ok.st (Bh l) (Ad _ _) rfl (by show Fw (Bh l)=32;rw[Be,ul]) (Bl (by show(Bh D8).length=(Bh l).length;rw[ul,Bf,mK])) ?_;obtain⟨E,e_,x3,ax,_⟩:=nP h2 (.cells (Bh D8) 81) (.cells (Bh l) 81);rw[e_];have J:=x3.hb W;have o:=x3.at W o;have ab:=(M2.ext W x3).less fun i (u:Bg F h h1 i)=>Or.inl u
 have M3:=ab.less sub;have L:Kf F h E:=au.trans x3.kf;have g4:=L.at hb g4 f4;have Y:=L.at hb Y f7;have l4:=J _ _ g4;have l7:=J _ _ Y;simp only[I,Ac];by_cases h0:er=0
 ·simp only[h0,aC,aA,Aa,Xo]
  have B:=B h0;cases ok with
  | false=>
   simp only[Aa];have:=B E M3 (L.less fun i u=>u.1) J (by simp[X]) (by simpa using Y);simpa [I]using this
  | true=>
   simp only[Aa,Yu];rw[Cv ax rfl,Ai ul]
   try simp only[Aa]
   refine Ok.st (Bh l) Y rfl (by show Fw (Bh l)=32;rw[Be,ul]) (Bl (by show(Bh l0).length=(Bh l).length;rw[ul,aw])) ?_;have c7:Aw (fun i=>i=b7) E (E.put b7 (.cells (Bh l) 81)):=(Aw.refl (S:=fun i=>i=b7) E).Ao (.inl rfl) l7 _;have M4:=ab.iv c7 fun i u _=>by
    have u:i=b7:=u;subst u;exact sub _ f7
   have ad:(E.put b7 (.cells (Bh l) 81)).get b7=some (.cells (Bh l) 81):=Af _ _ _;have o:(E.put b7 (.cells (Bh l) 81)).get h.next=some (.cells [I z,I mt] 189):=by
    rw[Ae _ (fun y=>by have:=M.lt _ f7;omega)];exact o
   have ae:Kf (fun i=>F i/\¬i=b7) h (E.put b7 (.cells (Bh l) 81)):=(L.less fun i u=>u.1).trans (c7.mono fun i u y=>y.2 u);have O:HB (E.put b7 (.cells (Bh l) 81)):=J.put l7 _;generalize E.put b7 (.cells (Bh l) 81)=h4 at M4 ad o ae O⊢;simp only[I,Ac];rw[Ci (n:=(gd:Int)+1),Ci (n:=(n:Int)+1)];rw[show ∀k:EV->R,jR 2 1 (.ptr h.next 0) (.int .i64 0) k=k (.ptr h.next 0)from fun k=>rfl,Ak o rfl (v:=I z) rfl];refine(O0 (K:=K) M4.s O hz).Al ?_;rintro _ h5 ⟨rfl,x5⟩;have az:=x5.hb O;have M5:=(M4.ext O x5).less fun i (u:Bg F h h1 i)=>Or.inl u
   have this:=B h5 (M5.less sub) (ae.trans x5.kf) az (by simpa using bl) (by simpa using x5.at O ad);cases af:T.Ja z with
   | true=>
    simp only[Aa];simpa [I,af]using this
   | false=>
    simp only[Aa,Ac];simpa [I,af]using this
 ·simp only[h0,aH,aB,Aa]
  rw[Ax (l:=Bh D8) rfl];refine Ok.st (Bh D8) g4 rfl rfl (Bl rfl) ?_;rw[vM (Af _ _ _) ji.1 ji.2 rfl];have c8:Aw (fun i=>i=b4) E (E.put b4 (.cells (Bh D8) 81)):=(Aw.refl (S:=fun i=>i=b4) E).Ao (.inl rfl) l4 _;exact .ret (U h0 _ (M3.iv c8 fun i u _=>u▸f4) ((L.less fun i u=>u.1).trans (c8.mono fun i u y=>y.2.1 u)) (J.put l4 _))
end
def Mi.tl(x:Me)(C D:Mi × List Nat × Bool × Int):Mi × List Nat × Int × Int:=
 if ¬D.2.2.2=0 then(D.1,D8,0,D.2.2.2)else
 if C.2.2.1=false/\D.2.2.1=false then(D.1,D8,0,41)else
 (D.1,if D.2.2.1=true then D.2.1 else C.2.1,(if C.2.2.1=true/\C.1.Ja x.Am=false then 1 else 0)+(if D.2.2.1=true/\D.1.Ja x.Bw=false then 1 else 0),0)
def Mi.check(S:Mi)(x:Me):Mi × List Nat × Int × Int:=
 if qs S.g x=false then(S,D8,0,10)else
 if ¬(S.D9 x x.Am x.Bw).2.2.2=0 then((S.D9 x x.Am x.Bw).1,D8,0,(S.D9 x x.Am x.Bw).2.2.2)else
 Mi.tl x (S.D9 x x.Am x.Bw) ((S.D9 x x.Am x.Bw).1.D9 x x.Bw x.Am)
theorem Ο(A:Ca disp)(hK:10000<K)(hd:21<=d)(M:C8 h m S F)(hb:HB h){x:Me}(hz:Vv x.Am)(hm:Vv x.Bw):
 Ok (Ag TT disp K d false 71 [.ptr m 0,.agg x.cells] h) fun v h'=>v=.tuple [.agg (Bh (S.check x).2.1),I (S.check x).2.2.1,I (S.check x).2.2.2]/\(S.check x).2.1.length=32/\C8 h' m (S.check x).1 F/\Kf F h h'/\HB h':=by
 obtain⟨dd,rfl⟩:=d_ d;rw[Akr A a_];simp only[MF,Aa];rw[show(h.new (.cells x.cells 87)).next=h.next+1 from rfl,Gq];have x1:Ext h ((h.new (.cells x.cells 87)).new (.cells (Bh D8) 81)):=(Aw.new _ _).Da _;have E:((h.new (.cells x.cells 87)).new (.cells (Bh D8) 81)).get h.next=some (.cells x.cells 87):=by
  rw[Az _ (aO _)];exact Ad _ _
 have g4:((h.new (.cells x.cells 87)).new (.cells (Bh D8) 81)).get (h.next+1)=some (.cells (Bh D8) 81):=Ad _ _;have n1:((h.new (.cells x.cells 87)).new (.cells (Bh D8) 81)).next=h.next+2:=rfl
 generalize (h.new (.cells x.cells 87)).new (.cells (Bh D8) 81)=h1 at x1 E g4 n1⊢;have T:=x1.hb hb;have M1:=M.ext hb x1;rw[Cv E rfl,Ai (n:=6) rfl]
 try simp only[Aa]
 refine(VD (K:=K) M1 T hz hm).Al ?_;rintro _ h2 ⟨rfl,x2⟩;have J:=x2.hb T;have aa:Ext h h2:=x1.trans x2;have M2:=M.ext hb aa;have E:=x2.at T E;have g4:=x2.at T g4;have ln:=x2.next
 have bn:Bg F h h2 (h.next+1):=.inr ⟨a_,a_⟩;have l4:=J _ _ g4;unfold Mi.check;cases hl:qs S.g x with
 | false=>
  simp only[Aa,bM];rw[Ax (l:=Bh D8) rfl];refine Ok.st (Bh D8) g4 rfl rfl (Bl rfl) ?_;rw[vM (Af _ _ _) ji.1 ji.2 rfl];have x3:Ext h (h2.put (h.next+1) (.cells (Bh D8) 81)):=aa.Ao (.inr a_) l4 _;exact .ret ⟨rfl,rfl,(M.ext hb x3).less fun i (B:F i)=>Or.inl B,x3.kf,J.put l4 _⟩
 | true=>
  rw[aK (by simp)];simp only[Aa,Yh,Gq];obtain⟨U,e_,x3,g7,n3⟩:=nW h2 (.cells (Bh D8) 81);rw[e_];have ad:=x3.hb J;have ai:Ext h U:=aa.trans x3;have M3:=M.ext hb ai;have E:=x3.at J E;have g4:=x3.at J g4;have f3:Bg F h U h.next:=.inr ⟨aD _,a_⟩
  have f4:Bg F h U (h.next+1):=.inr ⟨a_,a_⟩;have f7:Bg F h U h2.next:=.inr ⟨a_,a_⟩
  have W:h.next+1≠h2.next:=a_
  have sub:∀i,F i->Bg F h U i:=fun i B=>.inl B
  have back:∀h',Kf (fun i=>Bg F h U i/\¬i=h.next+1/\¬i=h2.next) U h'->Kf F h h':=fun h' k=>
   Aw.then (S:=fun i=>¬F i) (Ext.to ai) k fun i y hl z=>y ⟨.inl z,fun y=>by have:=M.lt i z;omega,fun y=>by have:=M.lt i z;omega⟩
  rw[Ak E rfl (v:=I x.Am) rfl]
  try simp only[Aa]
  rw[Ak E rfl (v:=I x.Bw) rfl,Ax (l:=[I x.Am,I x.Bw]) rfl]
  try simp only[Aa]
  rw[Ak E rfl (v:=I x.Bw) rfl]
  try simp only[Aa]
  rw[Ak E rfl (v:=I x.Am) rfl,Ax (l:=[I x.Bw,I x.Am]) rfl,Ax (l:=[I x.Am,I x.Bw,I x.Bw,I x.Am]) rfl];obtain⟨k,rfl⟩:∃k,K=k+3:=⟨K-3,a_⟩;rw[show Dc (Ag TT disp (k+3) dd false) (Ag TT disp (k+3) dd true) (k+3) (k+3)=Dc (Ag TT disp (k+3) dd false) (Ag TT disp (k+3) dd true) (k+3) (k+2+1)from rfl];rw[Dc];simp only[Ac,show decide ((0:Int)<2)=true from rfl,Aa];refine VF A hK a_ M3 ad x (i:=0) (n:=0) (gd:=0) (l0:=D8) a_ a_ rfl hz (fun k=>rfl) f3 f4 f7 W E g4 g7 ?_ ?_
  ·intro hc h4 M4 k4 X
   rw[aN hc];exact⟨rfl,rfl,M4.less sub,back _ k4,X⟩
  ·intro hc h4 M4 k4 X L aj
   rw[aK (show ¬¬(S.D9 x x.Am x.Bw).2.2.2=0 from fun y=>y hc)];have a1:=k4.at ad E ⟨f3,a_⟩;have al:=k4.at ad g4 ⟨f4,W⟩;generalize S.D9 x x.Am x.Bw=C at M4 L aj⊢;simp only[Ik,Ac];rw[show Cs .i64 (((0:Nat):Int)+1)=((1:Nat):Int)from rfl];rw[show Dc (Ag TT disp (k+3) dd false) (Ag TT disp (k+3) dd true) (k+3) (k+2)=Dc (Ag TT disp (k+3) dd false) (Ag TT disp (k+3) dd true) (k+3) (k+1+1)from rfl];rw[Dc];simp only[Ac,show decide (((1:Nat):Int)<2)=true from rfl,Aa];have a2:(if C.2.2.1=true/\C.1.Ja x.Am=false then 0+1 else 0)<=10:=by split<;>omega
   have a5:(if C.2.2.1=true then 0+1 else 0)<=10:=by split<;>omega
   refine VF A hK a_ M4 X x (i:=1) a2 a5 L hm (fun k=>rfl) f3 f4 f7 W a1 al aj ?_ ?_
   ·intro hc h5 M5 k5 Y
    unfold Mi.tl;rw[aN hc];exact⟨rfl,rfl,M5.less sub,back _ ((k4.less fun i B=>⟨B.1,B.2.2⟩).trans k5),Y⟩
   ·intro hc h5 M5 k5 Y o u
    unfold Mi.tl;rw[aK (show ¬¬(C.1.D9 x x.Bw x.Am).2.2.2=0 from fun y=>y hc)];have ao:=k5.at X al ⟨f4,W⟩;have aq:=Y _ _ ao;generalize C.1.D9 x x.Bw x.Am=D at M5 o u⊢;simp only[Ik,Ac];rw[show Cs .i64 (((1:Nat):Int)+1)=((2:Nat):Int)from rfl];rw[Dc];simp only[Ac,show decide (((2:Nat):Int)<2)=false from rfl,Aa,Yy,I];have a6:Kf (fun i=>Bg F h U i/\¬i=h.next+1/\¬i=h2.next) U h5:=(k4.less fun i B=>⟨B.1,B.2.2⟩).trans (k5.less fun i B=>⟨B.1,B.2.2⟩);have fin:∀(l:List Nat) (n er:Int),l.length=32->Ok (Vz 32 (.ptr (h.next+1) 0) (.agg (Bh l)) h5 fun h'=>Gi TT [.c (.ptr (h.next+1) 0) 81,.v (I n),.v (I er)] h') fun v h'=>v=.tuple [.agg (Bh l),I n,I er]/\l.length=32/\C8 h' m D.1 F/\Kf F h h'/\HB h':=by
     intro l n er hl;have ul:(Bh l).length=32:=by rw[Bf,hl]
     refine Ok.st (Bh l) ao rfl (by show Fw (Bh l)=32;rw[Be,ul]) (Bl (by show(Bh D8).length=(Bh l).length;rw[ul,Bf,mK])) ?_;rw[vM (Af _ _ _) ji.1 ji.2 ul];have c8:Aw (fun i=>i=h.next+1) h5 (h5.put (h.next+1) (.cells (Bh l) 81)):=(Aw.refl (S:=fun i=>i=h.next+1) h5).Ao (.inl rfl) aq _;exact .ret ⟨rfl,hl,(M5.iv c8 fun i B _=>B▸f4).less sub,back _ (a6.trans (c8.mono fun i B y=>y.2.1 B)),Y.put aq _⟩
    cases c1:C.2.2.1 with
    | false=>
     rw[c1]at o u;cases c2:D.2.2.1 with
     | false=>
      simp only[aT,gP,ak,and_self,bM,show((0:Nat):Int)=0 from rfl,aB,Aa,Gq];rw[Ax (l:=Bh D8) rfl];exact fin D8 0 41 rfl
     | true=>
      rw[c2]at o u;simp only[bM]at o u;simp only[aT,gP,ak,gG,and_false,gQ,bM,Aa,Lm,show decide (((0+1:Nat):Int)=0)=false from rfl];rw[Cv u rfl,Ai (by rw[Bf,o])];simp only[Aa];have:=fin D.2.1 ((if D.1.Ja x.Bw=false then 0+1 else 0:Nat):Int) 0 o;simp only[I]at this;cases O:D.1.Ja x.Bw<;>simpa [O]using this
    | true=>
     rw[c1]at L o u;simp only[bM]at L;cases c2:D.2.2.1 with
     | false=>
      rw[c2]at o u;simp only[bM,aT,ak]at o u;simp only[gG,gP,ak,gQ,bM,aT,Aa,Lm,show decide (((0+1:Nat):Int)=0)=false from rfl];rw[Cv u rfl,Ai (by rw[Bf,o])];simp only[Aa];have:=fin C.2.1 ((if C.1.Ja x.Am=false then 0+1 else 0:Nat):Int) 0 L;simp only[I]at this;cases O:C.1.Ja x.Am<;>simpa [O]using this
     | true=>
      rw[c2]at o u;simp only[bM]at o u;simp only[gG,gP,ak,gQ,bM,Aa,Lm,show decide (((0+1+1:Nat):Int)=0)=false from rfl];rw[Cv u rfl,Ai (by rw[Bf,o])];simp only[Aa];have:=fin D.2.1 (((if C.1.Ja x.Am=false then 1 else 0)+(if D.1.Ja x.Bw=false then 1 else 0):Nat):Int) 0 o;simp only[I]at this;cases a8:C.1.Ja x.Am<;>cases O:D.1.Ja x.Bw<;>simpa [a8,O]using this
end
def Jj.new(n size:Nat)(op:Int):Jj:=⟨⟨n,size,op,0,false,fun _=>Zn.empty⟩,[],[]⟩
def Mi.new(g:Gm):Mi:=⟨g,Jj.new (g.D*g.Z).toNat g.S.toNat g.O,fun _=>[],fun _=>0,-1,-1,0⟩
theorem Bp2(s:Sm g)(hb:HB h){M zl p:Nat}{z q c:Nat->Nat}(d:mO h D V M zl (g.D*g.Z).toNat z (fun _=>0) g.S g.O 0 false .An .An [] (fun _=>Zn.empty))
 (nd:(h0.next<=D/\h0.next<=M)/\h0.next<=V/\h0.next<=zl/\∀d,d<(g.D*g.Z).toNat->h0.next<=z d) (W:Aca h m D p bl (g.D*g.Z).toNat g (-1) (-1) 0 (fun _=>0)) (T:E8 h p ql g.D.toNat q c g (fun _=>[]))
 (nm:(h0.next<=m/\h0.next<=bl)/\h0.next<=p/\h0.next<=ql/\∀d,d<g.D.toNat->h0.next<=q d/\h0.next<=c d) (le:h0.next<=h.next):C8 h m (Mi.new g) (fun i=>i<h0.next):=by
 have:=s.d0;have:=s.d1;have:=s.z0;have:=s.z1;have:=s.s0;have:=s.s1;obtain⟨m0,m1⟩:=Rp (a:=g.D) (b:=g.Z) (A:=8) (B:=64);have C:=d.dev;have L:∀i,i<(g.D*g.Z).toNat->∃s,h.get (z i)=some (.cells [s,I g.S,I 0,I 0,.bool false] 176):=fun i u=>by
  obtain⟨s,a,_⟩:=(C.Am i u).Am;exact⟨s,a⟩
 have hF:∀i,A27 V zl (g.D*g.Z).toNat z (fun _=>0) (fun _=>Zn.empty) i->i=V\/i=zl\/∃d,d<(g.D*g.Z).toNat/\i=z d:=fun i u=>by
  rcases u with y|y|⟨d,hd,y|y⟩
  ·exact .inl y
  ·exact .inr (.inl y)
  ·exact .inr (.inr ⟨d,hd,y⟩)
  ·exact absurd rfl y.1
 have kind:∀i o,h.get i=some o->(∀l,o≠.cells l 131)->(∀l,o≠.vec l 128 1)->(∀l,o≠.cells l 176)->¬A27 V zl (g.D*g.Z).toNat z (fun _=>0) (fun _=>Zn.empty) i:=fun i o J Y h2 h3 u=>by
  rcases hF i u with y|y|⟨d,hd,y⟩
  ·subst y;rw[C.dev]at J;cases J;exact Y _ rfl
  ·subst y;rw[C.row]at J;cases J;exact h2 _ rfl
  ·subst y
   obtain⟨s,hs⟩:=L d hd;rw[hs]at J;cases J;exact h3 _ rfl
 have U:∀i o,h.get i=some o->(∀l,o≠.cells l 131)->(∀l,o≠.vec l 128 1)->(∀l,o≠.cells l 176)->(∀l,o≠.cells l 118)->(∀l,o≠.map l)->¬(i=D\/i=M\/A27 V zl (g.D*g.Z).toNat z (fun _=>0) (fun _=>Zn.empty) i):=fun i o J Y h2 h3 h4 h5 u=>by
  rcases u with y|y|y
  ·subst y;rw[d.C0]at J;cases J;exact h4 _ rfl
  ·subst y;rw[d.marks]at J;cases J;exact h5 _ rfl
  ·exact kind i o J Y h2 h3 y
 have E:∀i,A27 V zl (g.D*g.Z).toNat z (fun _=>0) (fun _=>Zn.empty) i->i<h.next/\h0.next<=i:=fun i u=>by
  rcases hF i u with y|y|⟨d,hd,y⟩
  ·subst y;exact⟨hb _ _ C.dev,nd.2.1⟩
  ·subst y;exact⟨hb _ _ C.row,nd.2.2.1⟩
  ·subst y
   obtain⟨s,hs⟩:=L d hd;exact⟨hb _ _ hs,nd.2.2.2 d hd⟩
 have hS:g.S=((g.S.toNat:Nat):Int):=a_
 have X:Fo h D (Jj.new (g.D*g.Z).toNat g.S.toNat g.O) (fun i=>i=D\/i=M\/A27 V zl (g.D*g.Z).toNat z (fun _=>0) (fun _=>Zn.empty) i):=by
  have zw:∀size:Nat,0<size->Zn.empty.Wf size:=fun size hs=>⟨fun x hx=>(by cases hx),by show 0<=4;omega,aD _,cO _,fun _=>hs⟩
  have dw:Dv.Wf ⟨(g.D*g.Z).toNat,g.S.toNat,g.O,0,false,fun _=>Zn.empty⟩:=⟨by show g.S.toNat<=64;omega,by show(g.D*g.Z).toNat<=512;omega,fun i _=>zw _ (by show 0<g.S.toNat;omega)⟩;refine⟨fun i u=>?_,⟨by show 0+0<=200;omega,fun e he=>(by cases he),fun e he=>(by cases he)⟩,V,M,0,0,.An,.An,[],_,d.C0,d.marks,fun e he=>(by cases he),.nil _ _ _ _,.nil _ _ _ _,⟨dw,fun i u=>(E i u).1,zl,z,fun _=>0,?_,fun i u=>u⟩,⟨fun i u=>.inr (.inr u),.inl rfl,.inr (.inl rfl),fun y=>absurd y (bU _),fun y=>absurd y (bU _)⟩,⟨kind _ _ d.C0 (by intros;simp) (by intros;simp) (by intros;simp),kind _ _ d.marks (by intros;simp) (by intros;simp) (by intros;simp),fun y=>absurd y (bU _),fun y=>absurd y (bU _),fun y=>absurd y (bU _)⟩⟩
  ·rcases u with y|y|y
   ·subst y;exact hb _ _ d.C0
   ·subst y;exact hb _ _ d.marks
   ·exact(E i y).1
  ·show Mb h V zl (g.D*g.Z).toNat z (fun _=>0) ((g.S.toNat:Nat):Int) g.O 0 false (fun _=>Zn.empty)
   rw[<-hS];exact C
 refine⟨⟨fun i u=>u.1,D,p,bl,ql,g.D.toNat,q,c,_,W,T,⟨rfl,s,fun d _=>cO _⟩,X,?_,?_⟩,fun i u=>aL u le,{ toWp:=⟨s,fun d _ x hx=>by cases hx⟩,op:=.inl ⟨rfl,rfl⟩ }⟩
 ·have k:=U
  exact⟨k _ _ W.Jb (by intros;simp) (by intros;simp) (by intros;simp) (by intros;simp) (by intros;simp),k _ _ W.Ayw (by intros;simp) (by intros;simp) (by intros;simp) (by intros;simp) (by intros;simp),k _ _ T.Gt (by intros;simp) (by intros;simp) (by intros;simp) (by intros;simp) (by intros;simp),k _ _ T.row (by intros;simp) (by intros;simp) (by intros;simp) (by intros;simp) (by intros;simp),
   fun d hd=>⟨k _ _ (T.que d hd) (by intros;simp) (by intros;simp) (by intros;simp) (by intros;simp) (by intros;simp),k _ _ (T.chan d hd) (by intros;simp) (by intros;simp) (by intros;simp) (by intros;simp) (by intros;simp)⟩⟩
 ·refine⟨fun i u=>?_,⟨hb _ _ W.Jb,a_⟩,⟨hb _ _ W.Ayw,a_⟩,⟨hb _ _ T.Gt,a_⟩,⟨hb _ _ T.row,a_⟩,fun d hd=>⟨⟨hb _ _ (T.que d hd),by have:=nm.2.2.2 d hd;omega⟩,⟨hb _ _ (T.chan d hd),by have:=nm.2.2.2 d hd;omega⟩⟩⟩
  rcases u with y|y|y
  ·subst y;exact⟨hb _ _ d.C0,a_⟩
  ·subst y;exact⟨hb _ _ d.marks,a_⟩
  ·exact⟨(E i y).1,by have:=(E i y).2;omega⟩
def Mi.l_(S:Mi)(z:Int):Mi:={ S with ps:=(X3 S.g S.g.D.toNat S.ps z).2 }
theorem Mi.Wf.l_(w:S.Wf){z:Int}(o:0<=D4 S.g z->¬S.bad z.toNat=1):(S.l_ z).Wf:={ toWp:=⟨w.sm,UX w.ps _ _ o⟩,op:=w.op }
section
variable(M:C8 h m S F)(hb:HB h)
include M
theorem P7(hb:HB h):Ok (Cf K (.ptr m 0) h) fun v h'=>v=gV S.g/\Ext h h':=by
 obtain⟨_,D,p,bl,ql,np,q,c,G,a⟩:=M.s;exact Azy a.Jb hb
theorem YV:L2 K (.ptr m 0) h=some (.tuple [I S.a,I S.b,I S.u],h):=by
 obtain⟨_,D,p,bl,ql,np,q,c,G,a⟩:=M.s;exact A00 a.Jb
include hb
theorem EJ(A:Ca disp)(hK:10000<K):∃p,Cq K (.ptr m 0) h=some (.ptr p 0,h)/\∀{d:Nat},8<=d->∀{z:Int},Vv z->(0<=D4 S.g z->¬S.bad z.toNat=1) ->
 Ok (Ag TT disp K d false 41 [.ptr p 0,I z] h) fun v h'=>v=I (X3 S.g S.g.D.toNat S.ps z).1/\C8 h' m (S.l_ z) F/\Kf F h h'/\HB h':=by
 obtain⟨lt,D,p,bl,ql,np,q,c,G,a⟩:=M.s;refine⟨p,Xw a.Jb,fun {d} hd {z} B C=>?_⟩;have o:=a.psz.nd;subst o;refine(TO (K:=K) A a.Gt hb a.psz a_ hd z B).mono ?_;rintro v h' ⟨c3,u,rfl,E,J⟩;obtain⟨a3,cH⟩:=a.po hb E J c3;obtain⟨L,O⟩:=M.made (Ss.mono (H:=Out F h) ⟨fun i T=>aL T.1 cH.next,D,p,bl,ql,_,q,c,G,a3⟩ (fun _=>.inl) (Bg.lt lt cH.next)) cH (M.wf.l_ C);exact⟨rfl,L,O,u⟩
end
end
end Go.Ev
