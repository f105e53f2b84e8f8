import Derived.Test.YtoihakbgidodkaaGreatXa
set_option linter.all false
namespace Go.Ev
noncomputable section
open Go.Proofs
set_option maxRecDepth 100000
variable {k:EV->R}{D K V b d i j m n t b3 b4 bl np ql off:Nat}{P:Int->Prop}{out:List Nat}{h h' h0:Ab}{v Ap mt kind:Int}{y:List EV}{kk:Ab->R}{Q:EV->Ab->Prop}{F G H F':Nat->Prop}{ps:Nat->List Int}{Z:Zn}{ms:List (EV × EV)}{ev:List Jj}{ih:EV->EV->EV->EV->EV->EV->EV->EV->Ab->R}{disp:Nat->Option FT}
abbrev Nk(k:IntKind)(a:Nat):EV:=.int k (Int.ofNat a)
theorem wrap_u8(a:Nat):Cr .u8 (Int.ofNat a)=Int.ofNat (a%256):=by
 rw[Lx];rfl
theorem wrap_u32(a:Nat):Cr .u32 (Int.ofNat a)=Int.ofNat (a%4294967296):=by
 rw[Lx];rfl
theorem uO {c:IntKind}{a:Nat}:Sh .u8 (.int c (Int.ofNat a)) k=k (Nk .u8 (a%256)):=by
 rw[FO,wrap_u8]
theorem pK{a:Nat}:im (bin TT .shr t) (.int .i64 (Int.ofNat a)) (.int .u64 8) k=k (Nk .i64 (a/256)):=by
 show k (.int .i64 (.ofNat (Nat.shiftRight a 8)))=_;have:Nat.shiftRight a 8=a/256:=eP a 8;rw[this]
theorem rE {s:Nat}(hs:s<=32){a:Nat}:im (bin TT .shr t) (.int .u32 (Int.ofNat a)) (.int .u64 (Int.ofNat s)) k=k (Nk .u32 (a/2^s)):=by
 show k (.int .u32 (.ofNat (Nat.shiftRight a (Bc (Nat.ble s 32) s 32))))=_;rw[aO hs,Aj];have:Nat.shiftRight a s=a/2^s:=eP a s;rw[this]
theorem RE{a:Nat}(o:a<4294967296)(hb:b<4294967296):im (bin TT .xor t) (.int .u32 (Int.ofNat a)) (.int .u32 (Int.ofNat b)) k=k (Nk .u32 (a ^^^ b)):=by
 show k (.int .u32 (Cr .u32 (.ofNat (Nat.xor a b))))=_;rw[wrap_u32];have:Nat.xor a b<2^32:=cu (n:=32) o hb;rw[fN (by exact this)];rfl
theorem RF{a:Nat}(o:a<256)(hb:b<256):im (bin TT .xor t) (.int .u8 (Int.ofNat a)) (.int .u8 (Int.ofNat b)) k=k (Nk .u8 (a ^^^ b)):=by
 show k (.int .u8 (Cr .u8 (.ofNat (Nat.xor a b))))=_;rw[wrap_u8];have:Nat.xor a b<2^8:=cu (n:=8) o hb;rw[fN (by exact this)];rfl
def wd:Nat->Nat->Nat
 | 0,_=>1
 | f+1,a=>if a/256=0 then 1 else wd f (a/256)+1
theorem RG:∀(f a w:Nat),a<256^(f+1)->1<=w->(wd f a<=w↔a<256^w)
 | 0,a,w,h,hw=>by
  refine⟨fun _=>aL h (fL c_ a_),fun _=>hw⟩
 | f+1,a,w,h,hw=>by
  unfold wd;by_cases h0:a/256=0
  ·rw[aK h0]
   refine⟨fun _=>?_,fun _=>hw⟩;have:a<256:=a_
   exact aL this (by have:=fL (n:=256) c_ hw;simpa using this)
  ·rw[aH h0]
   have ih:=RG f (a/256) (w-1) (by rw[eI]at h;exact fK (by rw[fV];exact h));by_cases o:w=1
   ·subst o
    refine⟨fun y=>?_,fun y=>?_⟩
    ·have:1<=wd f (a/256):=by cases f<;>unfold wd<;>(try split)<;>omega
     omega
    ·exfalso;apply h0;simp at y;omega
   ·have ih:=ih a_
    obtain⟨v,rfl⟩:∃v,w=v+1:=⟨w-1,a_⟩;rw[gC]at ih;rw[eI];refine⟨fun y=>?_,fun y=>?_⟩
    ·have:=ih.1 a_
     have:=Nat.div_lt_iff_lt_mul (k:=256) (x:=a) (y:=256^v) c_;omega
    ·have:=ih.2 (fK (by rw[fV];exact y))
     omega
theorem Bbv:∀(f m a n:Nat) (h:Ab),f<m->a<256^(f+1)->n+f<=100->f<=10 ->
 Lr K m (Nk .i64 a) (Nk .i64 n) h=Xf K (Nk .i64 (a/256^(wd f a-1))) (Nk .i64 (n+wd f a-1)) h:=by
 intro f;induction f with
 | zero=>
  intro m a n h hm o B C;obtain⟨m,rfl⟩:=fc m;have:a/256=0:=by simp at o;omega
  simp only[Lr,dr];rw[pK,this];simp only[Nk,Ac];rw[show decide ((0:Int)<Int.ofNat 0)=false from rfl];simp only[Aa,wd,fG,Nat.pow_zero,Nat.div_one,gC]
 | succ f ih=>
  intro m a n h hm o B C;obtain⟨m,rfl⟩:=fc m;simp only[Lr,dr];rw[pK];simp only[Nk,Ac];unfold wd;by_cases h0:a/256=0
  ·rw[aK h0,h0]
   rw[show decide ((0:Int)<Int.ofNat 0)=false from rfl];simp only[Aa,fG,Nat.pow_zero,Nat.div_one,gC]
  ·rw[aH h0,show decide ((0:Int)<Int.ofNat (a/256))=true from aR (by show(0:Int)<((a/256:Nat):Int);omega)]
   simp only[Aa,HR];rw[pK];simp only[Nk,Ac];rw[show Cr .i64 (Int.ofNat n+1)=Int.ofNat (n+1)from Cn (by show _<=((n:Nat):Int)+1;omega) (by show((n:Nat):Int)+1<=_;omega)];have e:=ih m (a/256) (n+1) h a_ (fK (by rw[fV,<-eI];exact o)) a_ a_;rw[e];have hw:1<=wd f (a/256):=by cases f<;>unfold wd<;>(try split)<;>omega
   obtain⟨u,hu⟩:∃u,wd f (a/256)=u+1:=⟨wd f (a/256)-1,a_⟩;rw[hu,gC,show u+1+1-1=u+1 from rfl,Nat.pow_succ',eX,show n+1+(u+1)-1=n+(u+1+1)-1 from a_]
def kj(a:Nat):Nat:=if 7<wd 7 a then 8 else wd 7 a
theorem yT {a:Nat}(u:a<9223372036854775808)(hK:1000<K)(h:Ab):Vm K (.int .i64 (Int.ofNat a)) h=some (Nk .i64 (kj a),h):=by
 simp only[Vm,dr];unfold kj;have e:=Bbv (K:=K) 7 K a 1 h a_ (Nat.lt_trans u c_) c_ c_;have:(EV.int .i64 1)=Nk .i64 1:=rfl;rw[this,e];have hw:1<=wd 7 a:=by unfold wd;split<;>omega
 simp only[Xf,Nk,Ac];rw[show decide (Int.ofNat (a/256^(wd 7 a-1))<0)=false from aU (by show ¬(((a/256^(wd 7 a-1):Nat):Int)<0);exact Int.not_lt.2 (Int.natCast_nonneg _))];rw[show 1+wd 7 a-1=wd 7 a from a_];by_cases o:7<wd 7 a
 ·rw[show decide ((7:Int)<Int.ofNat (wd 7 a))=true from aR (by show(7:Int)<((wd 7 a:Nat):Int);omega),aK o]
  simp only[Aa,Xr];rfl
 ·rw[show decide ((7:Int)<Int.ofNat (wd 7 a))=false from aU (by show ¬((7:Int)<((wd 7 a:Nat):Int));omega),aH o]
  simp only[Aa,Xr,HQ]
theorem Bev {a:Nat}(hK:1000<K)(h:Ab):Vm K (.int .i64 (Int.negSucc a)) h=some (I 8,h):=by
 obtain⟨m,rfl⟩:=fc K;simp only[Vm,Lr,dr];have e:∀k:EV->R,im (bin TT .shr 3) (.int .i64 (Int.negSucc a)) (.int .u64 8) k=k (.int .i64 ((Int.negSucc a).fdiv 256)):=fun k=>rfl
 have o:(Int.negSucc a).fdiv 256<0:=by
  rw[fJ _ c_];have:Int.negSucc a<0:=Int.negSucc_lt_zero a;omega
 rw[e];simp only[Ac];rw[show decide ((0:Int)<(Int.negSucc a).fdiv 256)=false from aU a_];simp only[Aa,Xf,Ac];rw[show decide (Int.negSucc a<0)=true from aR (Int.negSucc_lt_zero a)];simp only[Aa,Xr,I]
theorem yS {a w:Nat}(o:a<9223372036854775808)(u:1<=w)(B:w<=7):kj a<=w↔a<256^w:=by
 have:=RG 7 a w (Nat.lt_trans o c_) u;rw[<-this];unfold kj;split<;>omega
def Tf(w a:Nat):List Nat:=(List.range w).map fun i=>a/256^i%256
theorem vf(w a:Nat):Tf (w+1) a=Tf w a++[a/256^w%256]:=by unfold Tf;rw[dB,cI];rfl
theorem Gn(w a:Nat):(Tf w a).length=w:=by simp[Tf]
theorem pL(a b:List Nat):Be (a++b)=Be a++Be b:=cI
theorem Az(a:List Nat):(Be a).length=a.length:=bT _
structure lj(h:Ab)(P t:Nat)(out:List Nat)(bad:Bool):Prop where
 Mh:∃s q,h.get P=some (.cells [s,.bool bad] t)/\Ce h s q 5 1 out.length (Be out)/\(0<out.length->P<q)
theorem vh(n:Int)(h:Ab):Ww K (I n) h=some (.bool (decide (1<=n/\n<=7)),h):=by
 simp only[Ww,I,Ac,Aa];by_cases o:1<=n
 ·simp only[o,aB,Aa,Ac,wj,gF]
 ·simp only[o,aA,Aa,wj,gI]
theorem Blh {P w:Nat}{bad:Bool}{a:Nat}(J:a<9223372036854775808)(hw:w<=7)(L:out.length<=60000)(h0:Ab)(O:P<h0.next):∀(m i:Nat) (h:Ab),w-i<m->i<=w->HB h->As (fun i=>P<=i) h0 h->lj h P t (out++Tf i a) bad ->
 Ok (Ja K m (.ptr P 0) (Nk .i64 (a/256^i)) (I w) (I i) h) fun _ h'=>lj h' P t (out++Tf w a) bad/\As (fun i=>P<=i) h0 h'/\HB h':=by
 intro m;induction m with
 | zero=>intro i h hm;omega
 | succ m ih=>
  intro i h hm hi hb c p;obtain⟨s,q,g,r,l⟩:=p.Mh;simp only[Ja,I,Ac,Aa];by_cases o:(i:Int)<w
  ·simp only[o,aB,Aa,Zh,Cx g rfl]
   rw[wrap_u8];have hlen:(out++Tf i a).length=out.length+i:=by rw[aF,Gn]
   refine Ny (z:=[.int .u8 0]) r hb rfl rfl rfl a_ a_ ?_;intro h2 C T c2;have E:¬(0<(out++Tf i a).length/\P=q):=fun y=>by have:=l y.1;omega
   have u:=c2.at hb g E;have B:=(c2.hb hb) _ _ u;refine Ok.gK u rfl rfl (by show 0<2;decide) ?_;rw[pK];simp only[Zj,I,Ac];rw[Cn,eX,<-eI];have c3:As (fun i=>P<=i) h (h2.put P (.cells ([s,EV.bool bad].set 0 (.slice (h.next+1) 0 ((out++Tf i a).length+1) ((out++Tf i a).length+1) true)) t)):=(c2.mono fun j hj=>by have:=l hj.1;show P<=j;omega).Aq (.inl (aD _)) B _;refine ih (i+1) _ a_ a_ ((c2.hb hb).put B _) (c.trans c3) ?_;rw[vf,<-bm];refine⟨_,h.next+1,Ae _ _ _,?_,fun _=>by have:=c.next;omega⟩;have e1:((out++Tf i a)++[a/256^i%256]).length=(out++Tf i a).length+1:=by rw[aF];rfl
   have e2:Be ((out++Tf i a)++[a/256^i%256])=Be (out++Tf i a)++EV.cells (Nk .u8 (a/256^i%256)):=by rw[pL];rfl
   rw[e1,e2];refine C.frame fun _=>Af _ ?_
   have:=hb _ _ g;omega
  ·have:i=w:=a_
   subst this;simp only[o,aA,Aa];exact .ret ⟨p,c,hb⟩
def fits(w:Nat)(v:Int):Bool:=decide (0<=v/\v<(256^w:Nat))
theorem Lh {P w:Nat}{bad:Bool}(hK:1000<K)(p:lj h P t out bad)(hb:HB h)(J:out.length<=60000)(L:1<=w)(E:w<=7)(O : -9223372036854775808<=v/\v<=9223372036854775807:=by omega):
 Ok (D7 K (.ptr P 0) (I w) (I v) h) fun _ h'=>lj h' P t (if fits w v=true then out++Tf w v.toNat else out) (bad||!fits w v)/\As (fun i=>P<=i) h h'/\HB h':=by
 obtain⟨s,q,g,r,l⟩:=p.Mh;have u:=hb _ _ g;simp only[D7,dr];rw[vh,aR ⟨a_,a_⟩];simp only[Aa,Ac];have no:fits w v=false->Ok (f_ 1 (.ptr P 1) (.bool true) h fun h=>some (.tuple [],h)) fun _ h'=>lj h' P t (if fits w v=true then out++Tf w v.toNat else out) (bad||!fits w v)/\As (fun i=>P<=i) h h'/\HB h':=by
  intro B;refine Ok.gK g rfl rfl (by show 1<2;decide) ?_;refine .ret ⟨?_,(As.refl (S:=fun i=>P<=i) h).Aq (.inl (aD _)) u _,hb.put u _⟩;rw[B,aH (by simp),dF,Bool.or_true];exact⟨s,q,Ae _ _ _,r.frame fun y=>Af _ (by have:=l y;omega),l⟩
 cases v with
 | negSucc a=>
  unfold I;rw[Bev hK,Ar];simp only[I,Ac];rw[show decide ((w:Int)<8)=true from aR a_];simp only[Aa,Ou];exact no (aU fun y=>absurd y.1 (by have:=Int.negSucc_lt_zero a;omega))
 | ofNat a=>
  have C:a<9223372036854775808:=by have:((a:Nat):Int)<=9223372036854775807:=O.2;omega
  unfold I;rw[yT C hK,Ar];have o:=yS C L E;simp only[Nk,Ac];by_cases hw:kj a<=w
  ·have B:fits w (Int.ofNat a)=true:=aR ⟨Int.natCast_nonneg a,by have:=o.1 hw;exact Int.ofNat_lt.2 this⟩
   rw[show decide ((w:Int)<Int.ofNat (kj a))=false from aU (by show ¬(w:Int)<((kj a:Nat):Int);omega)];simp only[Aa,Ou,Zw];have:=Blh (K:=K) (P:=P) (t:=t) (w:=w) (bad:=bad) C E J h u K 0 h a_ (cF _) hb (As.refl _) (by simpa [Tf]using p);rw[Nat.pow_zero,Nat.div_one]at this;rw[B,aK rfl,eR,Bool.or_false];exact this
  ·rw[show decide ((w:Int)<Int.ofNat (kj a))=true from aR (by show(w:Int)<((kj a:Nat):Int);omega)]
   simp only[Aa,Ou];exact no (aU fun y=>hw (o.2 (Int.ofNat_lt.1 y.2)))
theorem RH {P:Nat}{bad:Bool}{new:List Nat}(p:lj h P t out bad)(hb:HB h)(O:out.length<=60000){x:EV}(C:lenOf x=some n)(h0:0<n)(T:n<=5000)(E:Lm h 1 n x=some (Be new))(u:new.length=n):
 Ok (Qj K (.ptr P 0) x h) fun _ h'=>lj h' P t (out++new) bad/\As (fun i=>P<=i) h h'/\HB h':=by
 obtain⟨s,q,g,r,l⟩:=p.Mh;have U:=hb _ _ g;simp only[Qj,Aa,Cx g rfl];obtain⟨h2,e,J,W,c2⟩:=Zd r C h0 a_ a_ E (by rw[Az,u,br]);rw[e,Ar];have L:¬(0<out.length/\P=q):=fun y=>by have:=l y.1;omega
 have B:=c2.at hb g L;have o:=(c2.hb hb) _ _ B
 try simp only[Aa]
 refine Ok.gK B rfl rfl (by show 0<2;decide) ?_;refine .ret ⟨⟨_,h.next,Ae _ _ _,?_,fun _=>a_⟩,(c2.mono fun j hj=>by have:=l hj.1;show P<=j;omega).Aq (.inl (aD _)) o _,(c2.hb hb).put o _⟩;rw[aF,u,pL];exact J.frame fun _=>Af _
structure Bs(h:Ab)(x:EV)(b off:Nat)(l:List Nat):Prop where
 Mh:∃r op o row,x=.slice b off l.length r op/\l.length<=r/\h.get b=some o/\rowOf o=some row/\off+l.length<=row.length/\(row.drop off).take l.length=Be l
theorem Bs.frame{x:EV}{l:List Nat}(s:Bs h x b off l)(e:h'.get b=h.get b):Bs h' x b off l:=by
 obtain⟨r,op,o,row,e1,e0,e2,e3,e4,e5⟩:=s.Mh;exact⟨r,op,o,row,e1,e0,by rw[e];exact e2,e3,e4,e5⟩
theorem Bs.lt{x:EV}{l:List Nat}(s:Bs h x b off l)(hb:HB h):b<h.next:=by
 obtain⟨r,op,o,row,e1,e0,e2,e3,e4,e5⟩:=s.Mh;exact hb _ _ e2
theorem Bs.ext{x:EV}{l:List Nat}(s:Bs h x b off l)(hb:HB h)(c:Ext h h'):Bs h' x b off l:=s.frame (c.get _ (s.lt hb) id)
theorem Bs.lift{x:EV}{l:List Nat}(s:Bs h x b off l):Bs h.lift x b off l:=s.frame (Bx _ _)
theorem Bs.len{x:EV}{l:List Nat}(s:Bs h x b off l):lenOf x=some l.length:=by
 obtain⟨r,op,o,row,rfl,_⟩:=s.Mh;rfl
theorem Bs.Gi{x:EV}{l:List Nat}(s:Bs h x b off l)(k:EV->R):Ev.Gi x k=k (I l.length):=by
 obtain⟨r,op,o,row,rfl,_⟩:=s.Mh;rfl
theorem Bs.cells{x:EV}{l:List Nat}(s:Bs h x b off l):Lm h 1 l.length x=some (Be l):=by
 obtain⟨r,op,o,row,rfl,e0,e2,e3,e4,e5⟩:=s.Mh;show Bc (Nat.beq l.length 0) (some []) (Uw h b off (Nat.mul l.length 1))=_;rw[show Nat.mul l.length 1=l.length from br _];have u:Ly row off l.length=some (Be l):=by rw[Eg e4,e5]
 cases B:l with
 | nil=>rfl
 | cons a r=>
  rw[show Nat.beq (a::r).length 0=false from rfl,Bo];unfold Uw;rw[e2,<-B];cases o<;>first|(cases e3;done)|(cases e3;exact u)
theorem Bs.ix{x:EV}{l:List Nat}(s:Bs h x b off l)(hi:i<l.length):(∀k:EV->R,Wn 1 x (.int .i64 (i:Int)) k=k (.ptr b (off+i)))/\(∀k:EV->R,Ec (.ptr b (off+i)) h k=k (Nk .u8 l[i])):=by
 obtain⟨r,op,o,row,rfl,e0,e2,e3,e4,e5⟩:=s.Mh;refine⟨fun k=>by rw[Lg hi,br],fun k=>?_⟩;rw[Cx e2 e3];have:row[off+i]? = some (Nk .u8 l[i]):=by
  have e5:=congrArg (fun z=>z[i]?) e5;simp only[dX,hi,bN,cW]at e5;rw[e5];unfold Be;rw[bB,aE hi];rfl
 rw[this];rfl
theorem Bs.take{x:EV}{l:List Nat}(s:Bs h x b off l)(C:n<=l.length):∃y,(∀k:EV->R,h_ 1 x none (some (.int .i64 (n:Int))) none k=k y)/\Bs h y b off (l.take n):=by
 obtain⟨r,op,o,row,rfl,e0,e2,e3,e4,e5⟩:=s.Mh;have u:(l.take n).length=n:=by rw[bK,dV C]
 refine⟨EV.slice b off n r op,fun k=>?_,⟨r,op,o,row,by rw[u],by rw[u];omega,e2,e3,by rw[u];omega,?_⟩⟩
 ·have:iJ (EV.slice b off l.length r op) 1 none (some (.int .i64 (n:Int))) none=some (EV.slice b off n r op):=by
   have B:bound (some (.int .i64 (n:Int))) r l.length=some n:=by
    show Bc (Nat.ble n r) (some n) none=_;rw[aO a_,Aj]
   unfold iJ;simp only[B];cases op with
   | true=>rfl
   | false=>
    show Bc (Nat.ble 0 r) (some (EV.slice b (Bc (Nat.beq r 0) off (Nat.add off (Nat.mul 0 1))) n r false)) none=_;rw[aO (cF _),Aj];have:Bc (Nat.beq r 0) off (Nat.add off (Nat.mul 0 1))=off:=by
     rw[show Nat.add off (Nat.mul 0 1)=off from rfl];cases Nat.beq r 0<;>rfl
    rw[this]
  unfold h_;rw[this];rfl
 ·rw[u]
  have:=congrArg (fun z=>z.take n) e5;simp only[List.take_take,dV C]at this;rw[this];unfold Be;rw[List.map_take]
theorem Bs.drop{l:List Nat}{r:Nat}{op:Bool}(s:Bs h (.slice b off l.length r op) b off l)(T:n<l.length):(∀k:EV->R,h_ 1 (.slice b off l.length r op) (some (.int .i64 (n:Int))) none none k=k (.slice b (off+n) (l.length-n) (r-n) op))/\Bs h (.slice b (off+n) (l.length-n) (r-n) op) b (off+n) (l.drop n):=by
 obtain⟨U,E,o,row,e1,e0,e2,e3,e4,e5⟩:=s.Mh;injection e1 with _ _ _ J L;subst J L;have u:(l.drop n).length=l.length-n:=by rw[av]
 refine⟨fun k=>?_,⟨r-n,op,o,row,by rw[u],by rw[u];omega,e2,e3,by rw[u];omega,?_⟩⟩
 ·have:iJ (.slice b off l.length r op) 1 (some (.int .i64 (n:Int))) none none=some (.slice b (off+n) (l.length-n) (r-n) op):=by
   have B:bound (some (.int .i64 (n:Int))) l.length 0=some n:=by
    show Bc (Nat.ble n l.length) (some n) none=_;rw[aO a_,Aj]
   have C:bound none r l.length=some l.length:=rfl;unfold iJ;simp only[B,C];cases op with
   | true=>
    rw[Aj];cases n with
    | zero=>rfl
    | succ n=>
     rw[show Nat.beq (n+1) 0=false from rfl,Bo,aO (by show n+1+1<=r;omega),Aj,show Nat.mul (n+1) 1=n+1 from br _];rfl
   | false=>
    rw[Bo,aO (by show n<=r;omega),Aj,show Nat.mul n 1=n from br _];have:Nat.beq r n=false:=by
     cases O:Nat.beq r n with
     | false=>rfl
     | true=>have:=aJ O;omega
    rw[this,Bo];rfl
  unfold h_;rw[this];rfl
 ·have:=congrArg (fun z=>z.drop n) e5
  rw[u];simp only[List.drop_take,cV]at this;rw[this];unfold Be;rw[List.map_drop]
theorem Ce.bs{s:EV}{q:Nat}{l:List Nat}(r:Ce h s q 5 1 l.length (Be l))(o:0<l.length):Bs h s q 0 l:=by
 refine⟨l.length,true,_,Be l,r.slice o,aD _,r.block o,rfl,by rw[Az,bJ];exact aD _,?_⟩;rw[cZ,<-Az,cM]
def Brb:EV->Nat
 | .int _ x=>x.toNat
 | _=>0
def lG:List Nat:=Bh.map Brb
theorem Be5:Bh=lG.map (Nk .u32):=by kernel_rfl
theorem Bqj:lG.all (fun n=>Nat.blt n 4294967296)=true:=by kernel_rfl
theorem Bmc:lG.length=256:=by kernel_rfl
def iW(r c:Nat):Nat:=(r/256) ^^^ (lG[(r%256) ^^^ c]?).getD 0
theorem yo(hi:i<256):Bh[i]? = some (Nk .u32 ((lG[i]?).getD 0))/\(lG[i]?).getD 0<4294967296:=by
 have o:i<lG.length:=by rw[Bmc];exact hi
 rw[Be5,bB,aE o];refine⟨rfl,?_⟩;have:=dG.1 Bqj _ (bA o);exact bL this
theorem Bnn {r c:Nat}(B:r<4294967296)(o:c<256):iW r c<4294967296:=by
 unfold iW;have u:(r%256) ^^^ c<2^8:=cu (n:=8) (fU _ c_) o;exact cu (n:=32) (by show r/256<4294967296;omega) (yo u).2
theorem Bms{r c:Nat}(J:r<4294967296)(u:c<256):Ok (Wq K Tu (Nk .u32 r) (Nk .u8 c) h) fun v h'=>v=Nk .u32 (iW r c)/\Ext h h':=by
 unfold Tu;simp only[Wq,Aa];obtain⟨L,B,C,E,_⟩:=nW h (.cells Bh 73);rw[B];rw[show ∀k:EV->R,im (bin TT .shr 71) (Nk .u32 r) (.int .u64 8) k=k (Nk .u32 (r/256))from fun k=>rE (s:=8) c_];have o:(r%256) ^^^ c<256:=cu (n:=8) (fU _ c_) u;rw[wrap_u8,RF (fU _ c_) u,show ∀k:EV->R,jP 256 1 (.ptr h.next 0) (Nk .u8 ((r%256) ^^^ c)) k=k (.ptr h.next (0+((r%256) ^^^ c)*1))from fun k=>kB o];rw[Cx E rfl,bJ,br,(yo o).1];simp only[G1];rw[RE a_ (yo o).2];exact .ret ⟨rfl,C⟩
def Q7(r:Nat)(l:List Nat):Nat:=l.foldl iW r
theorem pU:∀(l:List Nat) (r:Nat),r<4294967296->(∀b∈l,b<256)->Q7 r l<4294967296
 | [],r,o,_=>o
 | c::l,r,o,u=>pU l (iW r c) (Bnn o (u c (aQ ..))) fun b hb=>u b (aP _ hb)
theorem QD {T:Nat}{x:EV}{l:List Nat}(E:∀b∈l,b<256)(U:l.length<=5000){r0:Nat}(h0:r0<4294967296):∀(m i:Nat) (h:Ab),l.length-i<m->i<=l.length->HB h->h.get T=some (.cells Bh 73)->Bs h x b off l ->
 Ok (Nn K m (.ptr T 0) (Nk .u32 (Q7 r0 (l.take i))) x (I l.length) (I i) h) fun v h'=>v=Nk .u32 (Q7 r0 l)/\Ext h h':=by
 intro m;induction m with
 | zero=>intro i h hm;omega
 | succ m ih=>
  intro i h hm hi hb J s;simp only[Nn,I,Ac,Aa];by_cases u:(i:Int)<l.length
  ·have o:i<l.length:=a_
   obtain⟨e1,e2⟩:=s.ix o;simp only[u,aB,Aa,JA,e1,e2,Cz J rfl];rw[Ak Nt];simp only[G1];have C:∀b∈l.take i,b<256:=fun b hb=>E b (bI hb)
   refine(Bms (K:=K) (pU _ _ h0 C) (E _ (bA o))).Ao ?_;rintro _ L ⟨rfl,B⟩;simp only[I_,I,Ac];rw[Cn];have e:iW (Q7 r0 (l.take i)) l[i]=Q7 r0 (l.take (i+1)):=by
    unfold Q7;rw[List.take_add_one,List.foldl_append,aE o];rfl
   rw[e];refine(ih (i+1) L a_ a_ (B.hb hb) (B.at hb J) (s.ext hb B)).mono ?_;rintro v h' ⟨e,O⟩;exact⟨e,B.trans O⟩
  ·have:i=l.length:=a_
   subst this;simp only[u,aA,Aa,I',cM];exact .ret ⟨rfl,As.refl _⟩
def E5(l:List Nat):Nat:=Q7 4294967295 l ^^^ 4294967295
theorem sA {l:List Nat}(o:∀b∈l,b<256):E5 l<4294967296:=cu (n:=32) (pU l _ c_ o) c_
theorem uP{x:EV}{l:List Nat}(hK:10000<K)(s:Bs h x b off l)(hb:HB h)(u:∀b∈l,b<256)(B:l.length<=5000):Ok (N7 K Tu x h) fun v h'=>v=Nk .u32 (E5 l)/\Ext h h':=by
 unfold Tu;simp only[N7,Aa];obtain⟨C,E,o,J,_⟩:=nW h (.cells Bh 73);rw[E];have s1:=s.ext hb o;simp only[Sx,s1.Gi,dr];refine(QD (K:=K) u B (r0:=4294967295) c_ K 0 C a_ (cF _) (o.hb hb) J s1).Ao ?_;rintro _ h2 ⟨rfl,L⟩;rw[show ∀k:EV->R,im (bin TT .xor 71) (Nk .u32 (Q7 4294967295 l)) (.int .u32 4294967295) k=k (Nk .u32 (E5 l))from fun k=>RE (b:=4294967295) (pU l _ c_ u) c_];exact .ret ⟨rfl,o.trans L⟩
theorem Ce.cells{s:EV}{q:Nat}{l:List Nat}(r:Ce h s q 5 1 l.length (Be l)):Lm h 1 l.length s=some (Be l):=by
 rcases dW l.length with h0|o
 ·have:l = []:=bc.1 h0
  subst this;rcases r with⟨_,_,rfl|⟨b,rfl⟩⟩|⟨y,_⟩
  ·rfl
  ·rfl
  ·exact absurd y (bX _)
 ·exact(r.bs o).cells
theorem yW{P q:Nat}{s:EV}(g:h.get P=some (.cells [s,.bool false] t))(r:Ce h s q 5 1 out.length (Be out))(hb:HB h)(L:out.length<=60000):
 Ok (N6 K (.ptr P 0) h) fun v h'=>∃y q',v=.tuple [y,I 0]/\Ce h' y q' 5 1 out.length (Be out)/\Ext h h'/\HB h'/\(0<out.length->h.next<=q'):=by
 simp only[N6,Aa,Cx g rfl,HS];rw[show Bv [(.int .u8 0)] 5 1 0 [] h=some (.slice h.next 0 0 0 false,h.new (.cells [] 5))from rfl,Ar];have o:Ext h (h.new (.cells [] 5)):=As.new _ _;have B:=o.at hb g;have u:Ce (h.new (.cells [] 5)) s q 5 1 out.length (Be out):=r.frame fun y=>o.get _ (hb _ _ (r.block y)) id
 generalize h.new (.cells [] 5)=O at o B u⊢;simp only[Aa,Cx B rfl];refine(Tm (b:=h.next) (e:=5) u.len a_ u.cells (by rw[Az,br]) 0).Ao ?_;rintro v h2 ⟨q',E,C,J⟩;refine .ret ⟨v,q',rfl,E,o.trans C,(o.trans C).hb hb,fun y=>?_⟩;have:=J y;have:=o.next
 omega
theorem RI{P:Nat}(p:lj h P t out false)(hb:HB h)(o:out.length<=60000):
 Ok (N6 K (.ptr P 0) h) fun v h'=>∃y q',v=.tuple [y,I 0]/\Ce h' y q' 5 1 out.length (Be out)/\Ext h h'/\HB h'/\(0<out.length->h.next<=q'):=by
 obtain⟨s,q,g,r,_⟩:=p.Mh;exact yW g r hb o
theorem pT(s:Nat):Tf 4 s = [s%256,s/256%256,s/65536%256,s/16777216%256]:=by
 simp[Tf,dB]
theorem Bpt(a b c d:Int)(h:Ab):Bv [(.int .u8 0)] 5 1 4 [(0,.int .u8 a),(1,.int .u8 b),(2,.int .u8 c),(3,.int .u8 d)] h=some (.slice h.next 0 4 4 false,h.new (.cells [.int .u8 a,.int .u8 b,.int .u8 c,.int .u8 d] 5)):=rfl
theorem Bml{x:EV}{l:List Nat}(hK:10000<K)(s:Bs h x b off l)(hb:HB h)(hl:∀b∈l,b<256)(h0:0<l.length)(hn:l.length<=5000):
 Ok (X6 K Tu x h) fun v h'=>∃q',Ce h' v q' 5 1 (l++Tf 4 (E5 l)).length (Be (l++Tf 4 (E5 l)))/\Ext h h'/\HB h'/\h.next<=q':=by
 unfold Tu;simp only[X6,Aa];obtain⟨h1,e_,u,g3,_⟩:=nW h (.cells Bh 73);rw[e_];have o:=u.hb hb;rw[Cz g3 rfl,Ak Nt];simp only[G1];refine(uP (K:=K) hK (s.ext hb u) o hl hn).Ao ?_;rintro _ h2 ⟨rfl,B⟩;have C:=B.hb o;have s2:=(s.ext hb u).ext o B;rw[show Bv [(.int .u8 0)] 5 1 0 [] h2=some (.slice h2.next 0 0 0 false,h2.new (.cells [] 5))from rfl,Ar];have J:Ext h2 (h2.new (.cells [] 5)):=As.new _ _;have O:=s2.ext C J;have n3:(h2.new (.cells [] 5)).next=h2.next+1:=rfl
 generalize h2.new (.cells [] 5)=h3 at J O n3⊢;have T:=J.hb C;refine(Tm (b:=h2.next) (e:=5) O.len a_ O.cells (by rw[Az,br]) 0).Ao ?_;rintro v h4 ⟨q',r4,U,l4⟩;have W:=U.hb T;rw[show ∀k:EV->R,Sh .u8 (Nk .u32 (E5 l)) k=k (Nk .u8 (E5 l%256))from fun k=>uO];rw[show ∀k:EV->R,im (bin TT .shr 71) (Nk .u32 (E5 l)) (.int .u64 8) k=k (Nk .u32 (E5 l/256))from fun k=>rE (s:=8) c_];rw[show ∀k:EV->R,Sh .u8 (Nk .u32 (E5 l/256)) k=k (Nk .u8 (E5 l/256%256))from fun k=>uO];rw[show ∀k:EV->R,im (bin TT .shr 71) (Nk .u32 (E5 l)) (.int .u64 16) k=k (Nk .u32 (E5 l/65536))from fun k=>rE (s:=16) c_];rw[show ∀k:EV->R,Sh .u8 (Nk .u32 (E5 l/65536)) k=k (Nk .u8 (E5 l/65536%256))from fun k=>uO];rw[show ∀k:EV->R,im (bin TT .shr 71) (Nk .u32 (E5 l)) (.int .u64 24) k=k (Nk .u32 (E5 l/16777216))from fun k=>rE (s:=24) c_];rw[show ∀k:EV->R,Sh .u8 (Nk .u32 (E5 l/16777216)) k=k (Nk .u8 (E5 l/16777216%256))from fun k=>uO];rw[Bpt,Ar];have L:Ext h4 (h4.new (.cells (Be (Tf 4 (E5 l))) 5)):=As.new _ _;have e5:Be (Tf 4 (E5 l)) = [Nk .u8 (E5 l%256),Nk .u8 (E5 l/256%256),Nk .u8 (E5 l/65536%256),Nk .u8 (E5 l/16777216%256)]:=by rw[pT];rfl
 rw[e5]at L;have r5:Ce (h4.new (.cells [Nk .u8 (E5 l%256),Nk .u8 (E5 l/256%256),Nk .u8 (E5 l/65536%256),Nk .u8 (E5 l/16777216%256)] 5)) v q' 5 1 l.length (Be l):=r4.frame fun y=>L.get _ (W _ _ (r4.block y)) id
 have g5:(h4.new (.cells [Nk .u8 (E5 l%256),Nk .u8 (E5 l/256%256),Nk .u8 (E5 l/65536%256),Nk .u8 (E5 l/16777216%256)] 5)).get h4.next=some (.cells [Nk .u8 (E5 l%256),Nk .u8 (E5 l/256%256),Nk .u8 (E5 l/65536%256),Nk .u8 (E5 l/16777216%256)] 5):=Ad _ _
 have n5:(h4.new (.cells [Nk .u8 (E5 l%256),Nk .u8 (E5 l/256%256),Nk .u8 (E5 l/65536%256),Nk .u8 (E5 l/16777216%256)] 5)).next=h4.next+1:=rfl
 generalize h4.new (.cells [Nk .u8 (E5 l%256),Nk .u8 (E5 l/256%256),Nk .u8 (E5 l/65536%256),Nk .u8 (E5 l/16777216%256)] 5)=X at L r5 g5 n5⊢;have Y:Lm X 1 4 (.slice h4.next 0 4 4 false)=some (Be (Tf 4 (E5 l))):=by
  show Uw X h4.next 0 4=_
  unfold Uw lS;rw[g5,e5];rfl
 obtain⟨h6,e6,r6,n6,c6⟩:=Zd r5 rfl c_ c_ a_ Y (by rw[Az,Gn]);rw[e6,Ar];have hq:=l4 h0;have E:Ext h h6:=by
  refine((u.trans B).trans ((J.trans U).trans L)).then c6 fun j hj aw=>?_
  have:=u.next;have:=B.next;have:=hj.2;omega
 refine .ret ⟨X.next,?_,E,E.hb hb,?_⟩
 ·rw[pL,aF,Gn];exact r6
 ·have:=u.next;have:=B.next;have:=U.next;omega
theorem Bqq {a:Nat}(k:EV->R):K1 iK (bin TT .neq t) (Nk .u8 a) (Nk .u8 b) k=k (.bool (decide (¬a=b))):=by
 show k (iK .u8 (Int.ofNat a) (Int.ofNat b))=_;rw[FX,pY,sL];exact congrArg (fun b=>k (.bool b)) (eU.2 (not_congr ⟨Int.ofNat.inj,congrArg _⟩))
def jJ(l:List Nat):Bool:=decide (Tf 4 (E5 (l.take (l.length-4)))=l.drop (l.length-4))
def RJ(h:Ab)(l:List Nat)(v:EV)(h':Ab):Prop:=Ext h h'/\HB h'/\((jJ l=false/\v=.tuple [.Am,I 11])\/(jJ l=true/\∃y q',v=.tuple [y,I 0]/\Ce h' y q' 5 1 (l.take (l.length-4)).length (Be (l.take (l.length-4)))/\h.next<=q'))
theorem Bhc {x y:EV}{u:Nat}{l:List Nat}(h4:4<l.length)(hn:l.length<=5000)(hl:∀b∈l,b<256)(h0:Ab):∀(m i:Nat) (h:Ab),4-i<m->i<=4->HB h->Ext h0 h->Bs h x b off l->Bs h y b u (l.drop (l.length-4))->(∀j (hj:j<i),(l.drop (l.length-4))[j]? = some (E5 (l.take (l.length-4))/256^j%256)) ->
 Ok (Mx K m x (I ((l.length-4:Nat):Int)) (Nk .u32 (E5 (l.take (l.length-4))/256^i)) y (I 4) (I i) h) (RJ h0 l):=by
 intro m;have hd:(l.drop (l.length-4)).length=4:=by rw[av];omega
 have hs:=sA (l:=l.take (l.length-4)) fun b hb=>hl b (bI hb)
 induction m with
 | zero=>intro i h hm;omega
 | succ m ih=>
  intro i h hm hi hb E U W hj;simp only[Mx,I,Ac,Aa];by_cases B:(i:Int)<4
  ·have o:i<(l.drop (l.length-4)).length:=a_
   obtain⟨e1,e2⟩:=W.ix o;simp only[B,aB,Aa,KE,e1,e2];rw[wrap_u8];rw[Bqq];by_cases J:(l.drop (l.length-4))[i]=E5 (l.take (l.length-4))/256^i%256
   ·simp only[J,aC,aA,Aa,KD]
    rw[show ∀k:EV->R,im (bin TT .shr 71) (Nk .u32 (E5 (l.take (l.length-4))/256^i)) (.int .u64 8) k=k (Nk .u32 (E5 (l.take (l.length-4))/256^i/256))from fun k=>rE (s:=8) c_];simp only[KC,I,Ac];rw[Cn,eX,<-eI];refine ih (i+1) h a_ a_ hb E U W fun j ae=>?_
    by_cases O:j=i
    ·subst O;rw[aE o,J]
    ·exact hj j a_
   ·simp only[J,aG,aB,Aa]
    refine .ret ⟨E,hb,.inl ⟨aU fun y=>J ?_,rfl⟩⟩;have:=congrArg (fun z=>z[i]?) y;simp only[Tf]at this;rw[aE o,bB,cB a_]at this;exact(fZ this).symm
  ·have:i=4:=a_
   subst this;simp only[B,aA,Aa,KB];have ho:jJ l=true:=aR (by
    apply dP;intro j;by_cases C:j<4
    ·rw[hj j C];unfold Tf;rw[bB,cB C];rfl
    ·rw[cD (by rw[Gn];omega),cD a_])
   rw[show Bv [(.int .u8 0)] 5 1 0 [] h=some (.slice h.next 0 0 0 false,h.new (.cells [] 5))from rfl,Ar];have L:Ext h (h.new (.cells [] 5)):=As.new _ _;have X:=U.ext hb L;have n3:(h.new (.cells [] 5)).next=h.next+1:=rfl
   generalize h.new (.cells [] 5)=h3 at L X n3⊢;have T:=L.hb hb;obtain⟨w,e3,Y⟩:=X.take (n:=l.length-4) a_;rw[e3];refine(Tm (b:=h.next) (e:=5) Y.len (by rw[bK];omega) Y.cells (by rw[Az,br]) 0).Ao ?_;rintro v ag ⟨q',r4,x4,l4⟩;refine .ret ⟨E.trans (L.trans x4),x4.hb T,.inr ⟨ho,v,q',rfl,r4,?_⟩⟩;have:=l4 (by rw[bK];omega);have:=E.next
   omega
theorem Bnz{r:Nat}{op:Bool}{l:List Nat}(hK:10000<K)(s:Bs h (.slice b off l.length r op) b off l)(hb:HB h)(E:∀b∈l,b<256)(h4:4<l.length)(L:l.length<=5000):
 Ok (Xg K Tu (.slice b off l.length r op) h) (RJ h l):=by
 unfold Tu;simp only[Xg,Aa];obtain⟨Y,O,B,J,_⟩:=nW h (.cells Bh 73);rw[O];have o:=B.hb hb;have s1:=s.ext hb B;have T:=o _ _ J;simp only[Ac];rw[Cn,show(l.length:Int)-4=((l.length-4:Nat):Int) from a_,show decide (((l.length-4:Nat):Int)<0)=false from aU a_];simp only[Aa,KF,Cp T,Au,Cz J rfl,Ak Nt];obtain⟨w,e3,U⟩:=s1.take (n:=l.length-4) a_;rw[e3];refine Ok.bE (uP (K:=K) hK U.lift (Dj o) (fun b hb=>E b (bI hb)) (by rw[bK];omega)) (fun _ _ p=>p.2) ?_;rintro _ h2 W ⟨rfl,_⟩ sm u;have C:=u.hb o;obtain⟨e5,X⟩:=(s1.ext o u).drop (n:=l.length-4) a_;rw[e5];simp only[Aa];have:=Bhc (K:=K) (x:=.slice b off l.length r op) h4 L E h K 0 W a_ c_ C (B.trans u) (s1.ext o u) X (fun j hj=>absurd hj (cJ _));rw[Nat.pow_zero,Nat.div_one]at this;rw[show l.length-(l.length-4)=4 from a_]at this⊢;exact this
structure Rd(h:Ab)(R q off:Nat)(l:List Nat):Prop where
 Mh:∃s,h.get R=some (.cells [s,.bool false] 242)/\lenOf s=some l.length/\(0<l.length->s=.slice q off l.length l.length true/\Bs h s q off l)
 ne:q<R
theorem Rd.ext{R q:Nat}{l:List Nat}(d:Rd h R q off l)(hb:HB h)(c:Ext h h'):Rd h' R q off l:=by
 obtain⟨s,g,e,f⟩:=d.Mh;exact⟨⟨s,c.at hb g,e,fun y=>⟨(f y).1,(f y).2.ext hb c⟩⟩,d.ne⟩
theorem RK{x:EV}{l:List Nat}(s:Bs h x b off l)(hb:HB h)(h0:0<l.length:=by omega)(U:l.length<=5000:=by omega):
 Ok (qF K x h) fun v h'=>∃R q,v=.ptr R 0/\Rd h' R q 0 l/\Ext h h'/\HB h'/\h.next<=q:=by
 simp only[qF,dr];rw[show Bv [(.int .u8 0)] 5 1 0 [] h=some (.slice h.next 0 0 0 false,h.new (.cells [] 5))from rfl,Ar];have u:Ext h (h.new (.cells [] 5)):=As.new _ _;have s1:=s.ext hb u;generalize h.new (.cells [] 5)=W at u s1⊢;have B:=u.hb hb;refine(Tm (b:=h.next) (e:=5) s1.len a_ s1.cells (by rw[Az,br]) 0).Ao ?_;rintro v h2 ⟨q',C,L,O⟩;have o:=L.hb B;have E:=C.slice h0;subst E;rw[Ax (l:=[.slice q' 0 l.length l.length true,.bool false]) rfl];simp only[Aa];have J:Ext h2 (h2.new (.cells [.slice q' 0 l.length l.length true,.bool false] 242)):=As.new _ _;have T:=(C.bs h0).ext o J;refine .ret ⟨h2.next,q',rfl,⟨⟨_,Ad _ _,rfl,fun _=>⟨rfl,T⟩⟩,o _ _ (C.block h0)⟩,u.trans (L.trans J),J.hb o,?_⟩;have:=O h0;have:=u.next
 omega
theorem RL{R q:Nat}{l:List Nat}(d:Rd h R q off l)(hb:HB h)(h0:0<n)(E:n<=l.length):
 Ok (J0 K (.ptr R 0) (I n) h) fun v h'=>Bs h' v q off (l.take n)/\Rd h' R q (off+n) (l.drop n)/\As (fun i=>i=R) h h'/\HB h':=by
 obtain⟨s,g,e,f⟩:=d.Mh;obtain⟨rfl,s1⟩:=f a_;have C:=hb _ _ g;have J:R≠q:=by have:=d.ne;omega
 simp only[J0,Aa,Cx g rfl,Ac,I];rw[show decide ((n:Int)<0)=false from aU a_];simp only[Aa,HP,Ac,Cx g rfl];rw[show decide ((l.length:Int)<(n:Int))=false from aU a_];simp only[Aa,HO,HN,Cx g rfl];have e1:∀k:EV->Go.Ev.R,h_ 1 (.slice q off l.length l.length true) none (some (.int .i64 (n:Int))) (some (.int .i64 (n:Int))) k=k (.slice q off n n false):=fun k=>by
  have:iJ (.slice q off l.length l.length true) 1 none (some (.int .i64 (n:Int))) (some (.int .i64 (n:Int)))=some (.slice q off n n false):=by
   have b1:bound (some (.int .i64 (n:Int))) l.length 0=some n:=by
    show Bc (Nat.ble n l.length) (some n) none=_;rw[aO E,Aj]
   have b2:bound (some (.int .i64 (n:Int))) n 0=some n:=by
    show Bc (Nat.ble n n) (some n) none=_;rw[aO (aD _),Aj]
   unfold iJ;simp only[b1,b2];show some (EV.slice q (Bc (Nat.beq n 0) off (Nat.add off (Nat.mul 0 1))) n n false)=_;rw[show Nat.add off (Nat.mul 0 1)=off from rfl];cases Nat.beq n 0<;>rfl
  unfold h_;rw[this];rfl
 rw[e1];obtain⟨r',W,o,row,f1,f0,f2,f3,f4,f5⟩:=s1.Mh;have u:(l.take n).length=n:=by rw[bK,dV E]
 have B:(l.drop n).length=l.length-n:=av;have U:Bs h (.slice q off n n false) q off (l.take n):=by
  refine⟨n,false,o,row,by rw[u],by rw[u];exact aD _,f2,f3,by rw[u];omega,?_⟩;rw[u];have:=congrArg (fun z=>z.take n) f5;simp only[List.take_take,dV E]at this;rw[this];unfold Be;rw[List.map_take]
 have put:∀w:EV,(h.put R (.cells [w,.bool false] 242)).get q=h.get q:=fun w=>Af _ J
 rcases dC n l.length with L|X
 ·obtain⟨e2,s2⟩:=s1.drop L
  rw[e2];refine Ok.gK g rfl rfl (by show 0<2;decide) ?_;refine .ret ⟨U.frame (put _),⟨⟨_,Ae _ _ _,by rw[B];rfl,fun _=>⟨by rw[B],s2.frame (put _)⟩⟩,d.ne⟩,(As.refl (S:=fun i=>i=R) h).Aq (.inl rfl) C _,hb.put C _⟩
 ·have O:n=l.length:=a_
  subst O;have e2:∀k:EV->Go.Ev.R,h_ 1 (.slice q off l.length l.length true) (some (.int .i64 (l.length:Int))) none none k=k (.tail q (off+l.length) off):=fun k=>by
   have:iJ (.slice q off l.length l.length true) 1 (some (.int .i64 (l.length:Int))) none none=some (.tail q (off+l.length) off):=by
    have b1:bound (some (.int .i64 (l.length:Int))) l.length 0=some l.length:=by
     show Bc (Nat.ble l.length l.length) (some l.length) none=_;rw[aO (aD _),Aj]
    have b2:bound none l.length l.length=some l.length:=rfl;unfold iJ;simp only[b1,b2];rw[Aj];have z1:Nat.beq l.length 0=false:=by
     cases T:Nat.beq l.length 0 with
     | false=>rfl
     | true=>have:=aJ T;omega
    have Y:Nat.ble (Nat.succ l.length) l.length=false:=by
     cases T:Nat.ble (Nat.succ l.length) l.length with
     | false=>rfl
     | true=>have:=bL T;omega
    rw[z1,Bo,Y,Bo,cO,Aj,Aj,show Nat.mul l.length 1=l.length from br _];rfl
   unfold h_;rw[this];rfl
  rw[e2];refine Ok.gK g rfl rfl (by show 0<2;decide) ?_;refine .ret ⟨U.frame (put _),⟨⟨_,Ae _ _ _,by rw[B,fG];rfl,fun y=>by rw[B,fG]at y;exact absurd y (bX _)⟩,d.ne⟩,(As.refl (S:=fun i=>i=R) h).Aq (.inl rfl) C _,hb.put C _⟩
def Wo:List Nat->Nat
 | []=>0
 | b::r=>b+256*Wo r
theorem yp:∀(a:List Nat) (b:Nat),Wo (a++[b])=Wo a+256^a.length*b
 | [],b=>by simp[Wo]
 | x::a,b=>by
  have:=yp a b;simp only[List.cons_append,Wo,this,bP,eI];rw[Nat.mul_add,<-Nat.add_assoc,fV (256^a.length) 256,Nat.mul_assoc]
theorem yq:∀(a:List Nat),(∀b∈a,b<256)->Wo a<256^a.length
 | [],_=>by simp[Wo]
 | x::a,h=>by
  have o:=h x (aQ ..);have h2:=yq a fun b hb=>h b (aP _ hb)
  simp only[Wo,bP,eI];omega
theorem wrap_u64(a:Nat):Cr .u64 (Int.ofNat a)=Int.ofNat (a%18446744073709551616):=by
 rw[Lx];rfl
theorem Bny {a s:Nat}(hs:s<=64)(hb:a*2^s<9223372036854775808){k:EV->Go.Ev.R}:im (bin TT .shl t) (.int .i64 (Int.ofNat a)) (.int .u64 (Int.ofNat s)) k=k (Nk .i64 (a*2^s)):=by
 show k (.int .i64 (Cr .i64 (Int.mul (.ofNat a) (.ofNat (Nat.pow 2 (Bc (Nat.ble s 64) s 64))))))=_;rw[aO hs,Aj];have:Int.mul (.ofNat a) (.ofNat (Nat.pow 2 s))=((a*2^s:Nat):Int):=rfl;rw[this,Cn];rfl
theorem Bqc {a:Nat}(h:a||| b<9223372036854775808){k:EV->Go.Ev.R}:im (bin TT .or t) (.int .i64 (Int.ofNat a)) (.int .i64 (Int.ofNat b)) k=k (Nk .i64 (a||| b)):=by
 show k (.int .i64 (Cr .i64 (.ofNat (Nat.lor a b))))=_;have:Int.ofNat (Nat.lor a b)=((a||| b:Nat):Int):=rfl;rw[this,Cn];rfl
theorem Bly{x:EV}{l:List Nat}(L:∀b∈l,b<256)(U:l.length<=7):∀(m i:Nat) (h:Ab),l.length-i<m->i<=l.length->Bs h x b off l ->
 Kn K m (Nk .i64 (Wo (l.take i))) x (I l.length) (I i) h=some (Nk .i64 (Wo l),h):=by
 intro m;induction m with
 | zero=>intro i h hm;omega
 | succ m ih=>
  intro i h hm hi s;simp only[Kn,I,Ac,Aa];by_cases B:(i:Int)<l.length
  ·have o:i<l.length:=a_
   obtain⟨e1,e2⟩:=s.ix o;have hb:=L _ (bA o);simp only[B,aB,Aa,JD,e1,e2,Ac];have O:(256:Nat)^i=2^(8*i):=by rw[Nat.pow_mul]
   have u:(256:Nat)^i<=256^6:=fL c_ a_;have u:(256:Nat)^i<=281474976710656:=u;have hmul:l[i]*256^i<=255*281474976710656:=gG a_ u;rw[show Cr .i64 (Int.ofNat l[i])=Int.ofNat l[i]from Cn (by show _<=((l[i]:Nat):Int);omega) (by show((l[i]:Nat):Int)<=_;omega)];rw[show(8:Int)*(i:Int)=((8*i:Nat):Int) from a_,Cn];rw[show Cr .u64 ((8*i:Nat):Int)=Int.ofNat (8*i)from by have:=wrap_u64 (8*i);rw[fN a_]at this;exact this];rw[Bny a_ (by rw[<-O];omega)];have T:(l.take i).length=i:=by rw[bK,dV hi]
   have C:Wo (l.take i)<2^(8*i):=by
    have:=yq (l.take i) fun b hb=>L b (bI hb)
    rw[T,O]at this;exact this
   have E:Wo (l.take i)||| l[i]*2^(8*i)=Wo (l.take (i+1)):=by
    rw[List.take_add_one,aE o];show _=Wo (l.take i++[l[i]]);rw[yp,T,Nat.or_comm,fV l[i],<-Nat.two_pow_add_eq_or_of_lt C,O,Nat.add_comm]
   have J:Wo (l.take (i+1))<9223372036854775808:=by
    have:=yq (l.take (i+1)) fun b hb=>L b (bI hb)
    have h2:(256:Nat)^(l.take (i+1)).length<=256^7:=fL c_ (by rw[bK];omega);have W:(256:Nat)^7=72057594037927936:=c_
    omega
   rw[Bqc (by rw[E];exact J),E];simp only[JC,I,Ac];rw[Cn];exact ih (i+1) h a_ a_ s
  ·have:i=l.length:=a_
   subst this;simp only[B,aA,Aa,JB,cM]
theorem kx{R q w:Nat}{l:List Nat}(d:Rd h R q off l)(hb:HB h)(hK:1000<K)(B:1<=w)(E:w<=7)(u:w<=l.length)(C:∀b∈l,b<256):
 Ok (Iz K (.ptr R 0) (I w) h) fun v h'=>v=Nk .i64 (Wo (l.take w))/\Rd h' R q (off+w) (l.drop w)/\As (fun i=>i=R) h h'/\HB h':=by
 simp only[Iz,dr];rw[vh,aR ⟨a_,a_⟩];simp only[Aa,JE];refine(RL (K:=K) d hb B u).Ao ?_;rintro v h2 ⟨s,d2,c2,o⟩;rw[s.Gi];have J:(l.take w).length=w:=by rw[bK,dV u]
 have:=Bly (K:=K) (l:=l.take w) (fun b hb=>C b (bI hb)) a_ K 0 h2 a_ (cF _) s;rw[show EV.int .i64 0=Nk .i64 (Wo ((l.take w).take 0))from rfl];exact⟨_,_,this,rfl,d2,c2,o⟩
theorem RM{R q:Nat}{l:List Nat}(d:Rd h R q off l)(hb:HB h)(h0:0<n)(o:n<=l.length:=by omega):
 Ok (Lu K (.ptr R 0) (I n) h) fun v h'=>Bs h' v q off (l.take n)/\Rd h' R q (off+n) (l.drop n)/\As (fun i=>i=R) h h'/\HB h':=by
 simp only[Lu,dr];refine(RL (K:=K) d hb h0 o).Ao ?_;intro v h2 p;exact .ret p
theorem Bmd{R q:Nat}(d:Rd h R q off []):Rk K (.ptr R 0) h=some (I 0,h):=by
 obtain⟨s,g,e,f⟩:=d.Mh;simp only[Rk,Aa,Cx g rfl,Ac];have:∀k:EV->Go.Ev.R,Gi s k=k (I 0):=fun k=>by unfold Gi;rw[e];rfl
 rw[this];simp only[I,Ac];rfl
structure Fr where
 kind:Int
 Ai:Int
 off:Int
 Ap:Int
 seq:Int
 body:List Nat
def Fr.cells(f:Fr):List EV:=[I f.kind,I f.Ai,I f.off,I f.Ap,I f.seq]++Be f.body
structure Fr.Wf(f:Fr):Prop where
 len:f.body.length=44
 u8:∀b∈f.body,b<256
def hH(f:Fr):Bool:=wi f.kind 1 5&&(wi f.Ai 0 65535&&(wi f.off 0 65535&&(wi f.Ap 1 4294967295&&wi f.seq 0 281474976710655)))
theorem Qg(n a b:Int)(h:Ab):Mt K (.int .i64 n) (.int .i64 a) (.int .i64 b) h=some (.bool (wi n a b),h):=by
 simp only[Mt,Ac,Aa];by_cases o:a<=n
 ·simp only[o,aB,Aa,Ac,wk,wi,bG]
 ·simp only[o,aA,Aa,wk,wi,a8]
theorem Fr.Bm {f:Fr}(w:f.Wf):f.cells.length=49:=by
 unfold Fr.cells;rw[aF,Az,w.len];rfl
theorem yr(f:Fr):Ok (J2 K (.agg f.cells) h) fun v h'=>v=.bool (hH f)/\Ext h h':=by
 simp only[J2,Aa];obtain⟨L,B,o,u,_⟩:=nW h (.cells f.cells 136);rw[B];have l0:f.cells[0]? = some (I f.kind):=rfl;have l1:f.cells[1]? = some (I f.Ai):=rfl;have C:f.cells[2]? = some (I f.off):=rfl;have E:f.cells[3]? = some (I f.Ap):=rfl;have J:f.cells[4]? = some (I f.seq):=rfl;simp only[Cx u rfl,Aa,l0,I,Qg,Ac];unfold hH;cases wi f.kind 1 5 with
 | false=>simp only[Aa,Su,Nu,Jl,Hd,Ac];exact .ret ⟨rfl,o⟩
 | true=>
 simp only[Aa,Cx u rfl,l1,I,Qg,Ac,Su];cases wi f.Ai 0 65535 with
 | false=>simp only[Aa,Nu,Jl,Hd,Ac];exact .ret ⟨rfl,o⟩
 | true=>
 simp only[Aa,Cx u rfl,C,I,Qg,Ac,Nu];cases wi f.off 0 65535 with
 | false=>simp only[Aa,Jl,Hd,Ac];exact .ret ⟨rfl,o⟩
 | true=>
 simp only[Aa,Cx u rfl,E,I,Qg,Ac,Jl];cases wi f.Ap 1 4294967295 with
 | false=>simp only[Aa,Hd,Ac];exact .ret ⟨rfl,o⟩
 | true=>
 simp only[Aa,Cx u rfl,J,I,Qg,Ac,Hd];exact .ret ⟨by simp only[bG],o⟩
def jT(f:Fr):List Nat:=Tf 1 f.kind.toNat++Tf 1 1++Tf 2 f.Ai.toNat++Tf 2 f.off.toNat++Tf 4 f.Ap.toNat++Tf 6 f.seq.toNat++f.body
def Ls(f:Fr):List Nat:=jT f++Tf 4 (E5 (jT f))
theorem Yf(w a:Nat):∀b∈Tf w a,b<256:=fun b hb=>by
 unfold Tf at hb;obtain⟨i,_,rfl⟩:=cN.1 hb;exact fU _ c_
theorem pF {f:Fr}(w:f.Wf):(jT f).length=60:=by
 unfold jT;simp only[aF,Gn,w.len]
theorem oD {f:Fr}(w:f.Wf):(Ls f).length=64:=by
 unfold Ls;rw[aF,pF w,Gn]
theorem vw {f:Fr}(w:f.Wf):∀b∈jT f,b<256:=fun b hb=>by
 unfold jT at hb;simp only[bH]at hb;rcases hb with(((((hb|hb)|hb)|hb)|hb)|hb)|hb
 ·exact Yf _ _ b hb
 ·exact Yf _ _ b hb
 ·exact Yf _ _ b hb
 ·exact Yf _ _ b hb
 ·exact Yf _ _ b hb
 ·exact Yf _ _ b hb
 ·exact w.u8 b hb
theorem zp {f:Fr}(w:f.Wf):∀b∈Ls f,b<256:=fun b hb=>by
 unfold Ls at hb;rcases bH.1 hb with hb|hb
 ·exact vw w b hb
 ·exact Yf _ _ b hb
theorem X9 {w:Nat}{b:Int}(h0:0<=v)(hb:v<=b)(hw:b<(256^w:Nat)):fits w v=true:=aR ⟨h0,a_⟩
theorem zk{f:Fr}(w:f.Wf)(hr:hH f=true)(hb:HB h)(hK:10000<K):
 Ok (Xw K Tu (.agg f.cells) h) fun v h'=>v=.tuple [.agg (Be (Ls f)),I 0]/\Ext h h':=by
 have aw:=hr;simp only[hH,aX]at aw;obtain⟨r1,r2,r3,r4,r5⟩:=aw;obtain⟨a1,b1⟩:=Gd.1 r1;obtain⟨a2,b2⟩:=Gd.1 r2;obtain⟨a3,b3⟩:=Gd.1 r3;obtain⟨a4,b4⟩:=Gd.1 r4;obtain⟨a5,b5⟩:=Gd.1 r5;have l0:f.cells[0]? = some (I f.kind):=rfl;have l1:f.cells[1]? = some (I f.Ai):=rfl;have l2:f.cells[2]? = some (I f.off):=rfl;have l3:f.cells[3]? = some (I f.Ap):=rfl;have l4:f.cells[4]? = some (I f.seq):=rfl;have ax:=Fr.Bm w;unfold Tu;simp only[Xw,Aa];have x1:Ext h (((h.new (.cells Bh 73)).new (.cells f.cells 136)).new (.cells Sf 32)):=((As.new _ _).Dn _).Dn _;have C:(((h.new (.cells Bh 73)).new (.cells f.cells 136)).new (.cells Sf 32)).get h.next=some (.cells Bh 73):=by
  rw[Ba _ (by show h.next<h.next+1+1;omega),Ba _ (aT _)];exact Ad _ _
 have B:(((h.new (.cells Bh 73)).new (.cells f.cells 136)).new (.cells Sf 32)).get (h.next+1)=some (.cells f.cells 136):=by
  rw[Ba _ (by show h.next+1<h.next+1+1;omega)];exact Ad _ _
 have u:(((h.new (.cells Bh 73)).new (.cells f.cells 136)).new (.cells Sf 32)).get (h.next+2)=some (.cells Sf 32):=Ad _ _;have n1:(((h.new (.cells Bh 73)).new (.cells f.cells 136)).new (.cells Sf 32)).next=h.next+3:=rfl
 rw[show(h.new (.cells Bh 73)).next=h.next+1 from rfl,show((h.new (.cells Bh 73)).new (.cells f.cells 136)).next=h.next+2 from rfl,show List.replicate 64 (EV.int .u8 0)=Sf from rfl];generalize ((h.new (.cells Bh 73)).new (.cells f.cells 136)).new (.cells Sf 32)=h1 at x1 C B u n1⊢;have W:=x1.hb hb;rw[Cz B rfl,Ak ax];simp only[G1];refine(yr (K:=K) f).Ao ?_;rintro _ h2 ⟨rfl,x2⟩;rw[hr];simp only[Aa,KQ];have X:=x2.hb W;have bf:=x1.trans x2;have C:=x2.at W C;have B:=x2.at W B;have u:=x2.at W u;have n2:h.next+3<=h2.next:=by have:=x2.next;omega
 have p0:lj (h2.new (.cells [.Am,.bool false] 222)) h2.next 222 [] false:=⟨.Am,0,Ad _ _,.nil _ _ _ _,fun y=>absurd y (bX _)⟩
 have x3:Ext h2 (h2.new (.cells [.Am,.bool false] 222)):=As.new _ _;have C:=x3.at X C;have B:=x3.at X B;have u:=x3.at X u;have L:=x3.hb X;have ay:=bf.trans x3;generalize h2.new (.cells [.Am,.bool false] 222)=h3 at p0 x3 C B u L ay⊢;generalize hP:h2.next=P at p0 n2⊢
 have up:∀{ha hc:Ab},Ext h ha->As (fun i=>P<=i) ha hc->Ext h hc:=fun x c=>x.then c fun j hj hl=>by
  have hj:P<=j:=hj;omega
 have E:∀{ha hc:Ab} {i:Nat} {o:Ds},As (fun i=>P<=i) ha hc->HB ha->ha.get i=some o->i<P->hc.get i=some o:=fun c hb g hi=>c.at hb g a_
 simp only[Cx B rfl,l0];simp only[G1];refine(Lh (K:=K) (w:=1) a_ p0 L (by simp) c_ c_ (v:=f.kind)).Ao ?_;rintro _ h5 ⟨p,c,Y⟩;rw[X9 (b:=5) a_ b1 c_,aK rfl]at p;have x5:=up ay c;have C:=E c L C a_;have B:=E c L B a_;have u:=E c L u a_;refine(Lh (K:=K) (w:=1) a_ p Y (by simp[Gn]) c_ c_ (v:=1)).Ao ?_;rintro _ h6 ⟨p,c,aa⟩;rw[X9 (b:=1) a_ (Int.le_refl _) c_,aK rfl]at p;have x6:=up x5 c;have C:=E c Y C a_;have B:=E c Y B a_;have u:=E c Y u a_;simp only[Aa,Cx B rfl,l1];refine(Lh (K:=K) (w:=2) a_ p aa (by simp[Gn]) c_ c_ (v:=f.Ai)).Ao ?_;rintro _ h7 ⟨p,c,ad⟩;rw[X9 (b:=65535) a2 b2 c_,aK rfl]at p;have x7:=up x6 c;have C:=E c aa C a_;have B:=E c aa B a_;have u:=E c aa u a_;simp only[Aa,Cx B rfl,l2];refine(Lh (K:=K) (w:=2) a_ p ad (by simp[Gn]) c_ c_ (v:=f.off)).Ao ?_;rintro _ h8 ⟨p,c,ae⟩;rw[X9 (b:=65535) a3 b3 c_,aK rfl]at p;have x8:=up x7 c;have C:=E c ad C a_;have B:=E c ad B a_;have u:=E c ad u a_;simp only[Aa,Cx B rfl,l3];refine(Lh (K:=K) (w:=4) a_ p ae (by simp[Gn]) c_ c_ (v:=f.Ap)).Ao ?_;rintro _ h9 ⟨p,c,af⟩;rw[X9 (b:=4294967295) a_ b4 c_,aK rfl]at p;have x9:=up x8 c;have C:=E c ae C a_;have B:=E c ae B a_;have u:=E c ae u a_;simp only[Aa,Cx B rfl,l4];refine(Lh (K:=K) (w:=6) a_ p af (by simp[Gn]) c_ c_ (v:=f.seq)).Ao ?_;rintro _ a6 ⟨p,c,O⟩;rw[X9 (b:=281474976710655) a5 b5 c_,aK rfl]at p;have bj:=up x9 c;have C:=E c af C a_;have B:=E c af B a_;have u:=E c af u a_
 try simp only[Aa]
 rw[show ∀k:EV->R,Oz 44 1 (.ptr (h.next+1) 5) none none none k=k (.slice (h.next+1) 5 44 44 false)from fun k=>rfl];have bk:Lm a6 1 44 (.slice (h.next+1) 5 44 44 false)=some (Be f.body):=by
  show Uw a6 (h.next+1) 5 44=_;unfold Uw lS;rw[B];show Ly f.cells 5 44=_;rw[Eg (by rw[ax];decide)];show some (List.take 44 (Be f.body))=_;rw[bQ (by rw[Az,w.len];decide)]
 refine(RH (K:=K) (n:=44) p O (by simp[Gn]) rfl c_ c_ bk w.len).Ao ?_;rintro _ c6 ⟨p,c,T⟩;have bn:=up bj c;have C:=E c O C a_;have u:=E c O u a_;have ep:([]++Tf 1 f.kind.toNat++Tf 1 (1:Int).toNat++Tf 2 f.Ai.toNat++Tf 2 f.off.toNat++Tf 4 f.Ap.toNat++Tf 6 f.seq.toNat++f.body)=jT f:=by
  unfold jT;rw[dN];rfl
 have a7:∀b:Bool,(b||!true)=b:=c_
 rw[ep]at p;simp only[a7]at p;refine(RI (K:=K) p T (by rw[pF w];decide)).Ao ?_;rintro _ c7 ⟨y,q',rfl,ry,U,ah,lq⟩;have C:=U.at T C;have u:=U.at T u;simp only[Aa,I,Ac];simp only[aC,aA,Aa,KP];rw[Cz C rfl,Ak Nt];simp only[G1];have ai:0<(jT f).length:=by rw[pF w];decide
 refine(Bml (K:=K) hK (ry.bs ai) ah (vw w) ai (by rw[pF w];decide)).Ao ?_;rintro v al ⟨q2,ag,aj,ba,c9⟩;have ag:Ce al v q2 5 1 (Ls f).length (Be (Ls f)):=ag;have u:=aj.at ah u;have J:=oD w;have bp:=ag.slice (by rw[J];decide);subst bp;rw[show ∀k:EV->R,nL 64 (.slice q2 0 (Ls f).length (Ls f).length true) k=k (.ptr q2 0)from fun k=>by rw[J];rfl];rw[Cz (ag.block (by rw[J];decide)) rfl,Ak (by rw[Az,J])];simp only[G1];refine Ok.st (Be (Ls f)) u rfl (by show Fp (Be (Ls f))=64;rw[Bb,Az,J]) (Bn (by rw[Kg];show 64=(Be (Ls f)).length;rw[Az,J])) ?_;have bt:(al.put (h.next+2) (.cells (Be (Ls f)) 32)).get (h.next+2)=some (.cells (Be (Ls f)) 32):=Ae _ _ _;rw[Fi bt kg.1 kg.2 (by rw[Az,J])];have xx:Ext h al:=bn.trans (U.trans aj);exact .ret ⟨rfl,xx.Aq (.inr a_) (ba _ _ u) _⟩
variable {f:Fr}
theorem Ok.ky{o:Nat}{l:List EV}{v:EV}(u:h.get i=some (.cells l t))(hb:HB h)(B:v.plain=true)(C:v.cells = [v])(E:o<l.length)
 (hk:∀h',h'.get i=some (.cells (l.set o v) t)->As (fun j=>j=i) h h'->HB h'->Ok (kk h') Q):Ok (f_ 1 (.ptr i o) v h kk) Q:=by
 have lt:=hb _ _ u;exact Ok.gK u B C E (hk _ (Ae _ _ _) ((As.refl (S:=fun j=>j=i) h).Aq (.inl rfl) lt _) (hb.put lt _))
theorem qd:∀(hd By new:List EV),By.length=new.length->Fw (hd++By) hd.length new=some (hd++new)
 | [],By,new,h=>by
  have:=Bn (l:=By) (vs:=new) h;rw[Un]at this;exact this
 | a::hd,By,new,h=>by
  have ih:=qd hd By new h;show Bc (Nat.beq (hd.length+1) 0) _ (match Fw (hd++By) hd.length new with|some x=>some (a::x)|none=>none)=_;rw[show Nat.beq (hd.length+1) 0=false from rfl,Bo,ih];rfl
theorem yu{r:Nat}{op:Bool}{t:TypeId}{hd By new:List EV}{y:EV}(g:h.get i=some (.cells (hd++By) t))(B:lenOf y=some n)(C:0<n)(u:Lm h 1 n y=some new)(E:new.length=n)(J:By.length=n):
 builtin TT .copy #[106,106] [.slice i hd.length n r op,y] h=some (I n,h.put i (.cells (hd++new) t)):=by
 have hu:TT.T6 106=some (.slice 5):=by kernel_rfl
 have hs:TT.size 5=some 1:=by kernel_rfl
 have hb:Nat.ble n n=true:=aO (aD _);have h0:Nat.beq n 0=false:=by cases n with|zero=>omega|succ n=>rfl
 have hw:L9 h i hd.length new=some (h.put i (.cells (hd++new) t)):=by
  unfold L9;rw[g];simp only;rw[qd hd By new a_]
 rw[rK]at u;have o:lenOf (.slice i hd.length n r op)=some n:=rfl;unfold builtin;simp only[hu,hs,o,B,hb,Aj,h0,Bo,u,hw];rfl
theorem Rd.chg{R q:Nat}{l:List Nat}{S:Nat->Prop}(d:Rd h R q off l)(hb:HB h)(c:As S h h')(o:¬S q)(u:¬S R):Rd h' R q off l:=by
 obtain⟨s,g,e,f⟩:=d.Mh;exact⟨⟨s,c.at hb g u,e,fun y=>⟨(f y).1,(f y).2.frame (c.get _ ((f y).2.lt hb) o)⟩⟩,d.ne⟩
def Fr.zero:Fr:=⟨0,0,0,0,0,List.replicate 44 0⟩
theorem Fr.Hu:List.replicate 5 (EV.int .i64 0)++List.replicate 44 (EV.int .u8 0)=Fr.zero.cells:=by kernel_rfl
def lk(p:List Nat):Fr:=⟨Wo (p.take 1),Wo (((p.drop 1).drop 1).take 2),Wo ((((p.drop 1).drop 1).drop 2).take 2),Wo (((((p.drop 1).drop 1).drop 2).drop 2).take 4),Wo ((((((p.drop 1).drop 1).drop 2).drop 2).drop 4).take 6),(((((((p.drop 1).drop 1).drop 2).drop 2).drop 4).drop 6).take 44)⟩
def Um(s:List Nat):Fr × Int:=
 if jJ s=false then(Fr.zero,11)else
 if Wo (((s.take 60).drop 1).take 1)=1/\hH (lk (s.take 60))=true then(lk (s.take 60),0)else(Fr.zero,10)
theorem pG:TT.size 136=some 49/\TT.agg 136=some true:=⟨by kernel_rfl,by kernel_rfl⟩
theorem RN {p:List Nat}(o:p.length=60)(hu:∀b∈p,b<256):(lk p).Wf:=by
 refine⟨?_,fun b hb=>hu b ?_⟩
 ·simp only[lk,bK,av,o];decide
 ·simp only[lk]at hb
  exact aM (aM (aM (aM (aM (aM (bI hb))))))
theorem Fr.Gu:Fr.zero.Wf:=⟨by simp[Fr.zero],fun b hb=>by rw[bY hb];decide⟩
theorem Bm8 {s:List Nat}(o:s.length=64)(hu:∀b∈s,b<256):(Um s).1.Wf:=by
 unfold Um;split
 ·exact Fr.Gu
 ·split
  ·exact RN (by rw[bK,o];decide) fun b hb=>hu b (bI hb)
  ·exact Fr.Gu
theorem Axy{s:List Nat}(hl:s.length=64)(hu:∀b∈s,b<256)(hb:HB h)(hK:10000<K):
 Ok (sX K Tu (.agg (Be s)) h) fun v h'=>v=.tuple [.agg (Um s).1.cells,I (Um s).2]/\Ext h h':=by
 unfold Tu;simp only[sX,Aa];rw[Fr.Hu];have x1:Ext h (((h.new (.cells Bh 73)).new (.cells (Be s) 32)).new (.cells Fr.zero.cells 136)):=((As.new _ _).Dn _).Dn _;have g2:(((h.new (.cells Bh 73)).new (.cells (Be s) 32)).new (.cells Fr.zero.cells 136)).get h.next=some (.cells Bh 73):=by
  rw[Ba _ (by show h.next<h.next+1+1;omega),Ba _ (aT _)];exact Ad _ _
 have g3:(((h.new (.cells Bh 73)).new (.cells (Be s) 32)).new (.cells Fr.zero.cells 136)).get (h.next+1)=some (.cells (Be s) 32):=by
  rw[Ba _ (by show h.next+1<h.next+1+1;omega)];exact Ad _ _
 have B:(((h.new (.cells Bh 73)).new (.cells (Be s) 32)).new (.cells Fr.zero.cells 136)).get (h.next+2)=some (.cells Fr.zero.cells 136):=Ad _ _;have n1:(((h.new (.cells Bh 73)).new (.cells (Be s) 32)).new (.cells Fr.zero.cells 136)).next=h.next+3:=rfl
 rw[show(h.new (.cells Bh 73)).next=h.next+1 from rfl,show((h.new (.cells Bh 73)).new (.cells (Be s) 32)).next=h.next+2 from rfl];generalize ((h.new (.cells Bh 73)).new (.cells (Be s) 32)).new (.cells Fr.zero.cells 136)=h1 at x1 g2 g3 B n1⊢;have a5:=x1.hb hb;have dT:=a5 _ _ g2;have zl:=Fr.Bm Fr.Gu;have fin:∀(f:Fr) (e:Int) (h5:Ab) (kk:Ab->R),(∀h',kk h'=Iq TT [.c (.ptr (h.next+2) 0) 136,.v (I e)] h')->HB h5->Ext h h5->h5.get (h.next+2)=some (.cells Fr.zero.cells 136)->f.Wf->(f,e)=Um s ->
  Ok (f_ 49 (.ptr (h.next+2) 0) (.agg f.cells) h5 kk) fun v h'=>v=.tuple [.agg (Um s).1.cells,I (Um s).2]/\Ext h h':=by
  intro f e h5 kk ea al x5 g5 wf he;have fl:=Fr.Bm wf;refine Ok.st f.cells g5 rfl (by show Fp f.cells=49;rw[Bb,fl]) (Bn (by rw[zl];exact fl.symm)) ?_;have g6:(h5.put (h.next+2) (.cells f.cells 136)).get (h.next+2)=some (.cells f.cells 136):=Ae _ _ _;rw[ea,Fi g6 pG.1 pG.2 fl,<-he];exact .ret ⟨rfl,x5.Aq (.inr a_) (al _ _ g5) _⟩
 simp only[Cp dT,Au,Aa,Cz g2 rfl,Ak Nt];rw[show ∀k:EV->R,Oz 64 1 (.ptr (h.next+1) 0) none none none k=k (.slice (h.next+1) 0 64 64 false)from fun k=>rfl];have bs:Bs h1 (.slice (h.next+1) 0 s.length 64 false) (h.next+1) 0 s:=by
  refine⟨64,false,_,Be s,rfl,a_,g3,rfl,by rw[Az];omega,?_⟩;rw[cZ,<-Az,cM]
 have cG:=Bnz (K:=K) hK bs.lift (Dj a5) hu a_ a_;rw[hl]at cG;refine Ok.bE cG (fun _ _ p=>p.1) ?_;rintro v h2 h3 ⟨_,_,hv⟩ sm x3;have bt:=x3.hb a5;have B:=x3.at a5 B;have c0:=x1.trans x3;rcases hv with⟨ho,rfl⟩|⟨ho,y,q',rfl,ry,lq⟩
 ·simp only[Aa,I,Ac]
  simp only[show ¬((11:Int)=0) from c_,aG,aB,Aa];rw[Ax (l:=Fr.zero.cells) rfl];exact fin Fr.zero 11 h3 _ (fun _=>rfl) bt c0 B Fr.Gu (by unfold Um;rw[aK ho])
 ·have ec:¬jJ s=false:=by rw[ho];simp
  simp only[Aa,I,Ac];simp only[aC,aA,Aa,KT];have ed:s.length-4=60:=a_
  rw[ed]at ry;have c5:(s.take 60).length=60:=by rw[bK,hl];decide
  have X:∀b∈s.take 60,b<256:=fun b hb=>hu b (bI hb)
  have c7:Ce h3 y q' 5 1 (s.take 60).length (Be (s.take 60)):=ry.frame fun _=>sm.get _
  have ao:Um s=if Wo (((s.take 60).drop 1).take 1)=1/\hH (lk (s.take 60))=true then(lk (s.take 60),0)else(Fr.zero,10):=by unfold Um;rw[aH ec]
  have T:=RN c5 X;rw[ao]at fin⊢;unfold lk at fin ao T⊢;generalize s.take 60=p at c7 c5 X fin ao T⊢;refine(RK (K:=K) (c7.bs a_) bt).Ao ?_;rintro _ h5 ⟨Rr,q,rfl,d0,x5,al,fv⟩;have B:=x5.at bt B;have ee:=c0.trans x5;have fw:Rr<h5.next:=by obtain⟨_,g,_⟩:=d0.Mh;exact al _ _ g
  have fx:h.next+2<Rr:=by have:=d0.ne;have:=x3.next;omega
  have up:∀{Y hc:Ab},Ext h Y->As (fun i=>i=Rr) Y hc->Ext h hc:=fun x c=>x.then c fun j hj ef=>by
   have hj:j=Rr:=hj;omega
  have u:∀{Y hc:Ab} {i:Nat} {o:Ds},As (fun i=>i=Rr) Y hc->HB Y->Y.get i=some o->i≠Rr->hc.get i=some o:=fun c hb g hi=>c.at hb g hi
  refine(kx (K:=K) (w:=1) d0 al a_ c_ c_ a_ X).Ao ?_;rintro _ h6 ⟨rfl,d1,c6,bu⟩;have B:=u c6 al B a_;have x6:=up ee c6;rw[Ax (l:=(⟨Wo (p.take 1),0,0,0,0,List.replicate 44 0⟩:Fr).cells) rfl]
  try simp only[Aa]
  rw[Fr.Hu];have x7:Ext h6 (h6.new (.cells Fr.zero.cells 136)):=As.new _ _;have C:(h6.new (.cells Fr.zero.cells 136)).get h6.next=some (.cells Fr.zero.cells 136):=Ad _ _
  have n7:(h6.new (.cells Fr.zero.cells 136)).next=h6.next+1:=rfl
  have B:=x7.at bu B;have a7:=x7.hb bu;have d1:=d1.ext bu x7;have da:=x6.trans x7;have hF:Rr<h6.next:=by have:=c6.next;omega
  generalize h6.new (.cells Fr.zero.cells 136)=h7 at x7 C n7 B a7 d1 da⊢;generalize h6.next=J at C n7 hF⊢
  refine Ok.st (⟨Wo (p.take 1),0,0,0,0,List.replicate 44 0⟩:Fr).cells C rfl (by kernel_rfl) (Bn (by kernel_rfl)) ?_;have lF:=a7 _ _ C;have C:(h7.put J (.cells (⟨Wo (p.take 1),0,0,0,0,List.replicate 44 0⟩:Fr).cells 136)).get J=some (.cells (⟨Wo (p.take 1),0,0,0,0,List.replicate 44 0⟩:Fr).cells 136):=Ae _ _ _;have B:(h7.put J (.cells (⟨Wo (p.take 1),0,0,0,0,List.replicate 44 0⟩:Fr).cells 136)).get (h.next+2)=some (.cells Fr.zero.cells 136):=by rw[Af _];exact B
  have d1:Rd (h7.put J (.cells (⟨Wo (p.take 1),0,0,0,0,List.replicate 44 0⟩:Fr).cells 136)) Rr q (0+1) (p.drop 1):=by
   have c:As (fun i=>i=J) h7 (h7.put J (.cells (⟨Wo (p.take 1),0,0,0,0,List.replicate 44 0⟩:Fr).cells 136)):=(As.refl (S:=fun i=>i=J) h7).Aq (.inl rfl) lF _;exact d1.chg a7 c (by have:=d1.ne;intro y;omega) (by intro y;omega)
  have x8:Ext h (h7.put J (.cells (⟨Wo (p.take 1),0,0,0,0,List.replicate 44 0⟩:Fr).cells 136)):=da.Aq (.inr a_) lF _;have ba:=a7.put lF (.cells (⟨Wo (p.take 1),0,0,0,0,List.replicate 44 0⟩:Fr).cells 136);generalize h7.put J (.cells (⟨Wo (p.take 1),0,0,0,0,List.replicate 44 0⟩:Fr).cells 136)=h8 at C B d1 x8 ba⊢;refine(kx (K:=K) (w:=1) d1 ba a_ c_ c_ (by simp only[av];omega) (fun b hb=>X b (by revert hb;exact fun y=>aM y))).Ao ?_;rintro _ h9 ⟨rfl,d2,c9,bw⟩;have B:=u c9 ba B a_;have C:=u c9 ba C a_;have x9:=up x8 c9;refine(kx (K:=K) (w:=2) d2 bw a_ c_ c_ (by simp only[av];omega) (fun b hb=>X b (aM (aM hb)))).Ao ?_;rintro _ gb ⟨rfl,d3,bx,aq⟩;have B:=u bx bw B a_;have C:=u bx bw C a_;have eo:=up x9 bx;refine(kx (K:=K) (w:=2) d3 aq a_ c_ c_ (by simp only[av];omega) (fun b hb=>X b (aM (aM (aM hb))))).Ao ?_;rintro _ gf ⟨rfl,d4,bz,au⟩;have B:=u bz aq B a_;have C:=u bz aq C a_;have et:=up eo bz;refine(kx (K:=K) (w:=4) d4 au a_ c_ c_ (by simp only[av];omega) (fun b hb=>X b (aM (aM (aM (aM hb)))))).Ao ?_;rintro _ gh ⟨rfl,d5,b5,aw⟩;have B:=u b5 au B a_;have C:=u b5 au C a_;have eu:=up et b5;refine(kx (K:=K) (w:=6) d5 aw a_ c_ c_ (by simp only[av];omega) (fun b hb=>X b (aM (aM (aM (aM (aM hb))))))).Ao ?_;rintro _ gi ⟨rfl,d6,b6,ax⟩;have B:=u b6 aw B a_;have C:=u b6 aw C a_;have db:=up eu b6;have ay:∀{Y hc:Ab},Ext h Y->As (fun i=>i=J) Y hc->Ext h hc:=fun x c=>x.then c fun j hj ef=>by
   have hj:j=J:=hj;omega
  have L:∀{Y hc:Ab} {i:Nat} {o:Ds},As (fun i=>i=J) Y hc->HB Y->Y.get i=some o->i≠J->hc.get i=some o:=fun c hb g hi=>c.at hb g hi
  have O:∀{Y hc:Ab} {off:Nat} {l:List Nat},As (fun i=>i=J) Y hc->HB Y->Rd Y Rr q off l->Rd hc Rr q off l:=fun c hb d=>d.chg hb c (by have:=d.ne;intro y;omega) (by intro y;omega)
  have hz:(⟨Wo (p.take 1),0,0,0,0,List.replicate 44 0⟩:Fr).cells.length=49:=by kernel_rfl
  refine Ok.ky C ax rfl rfl (by rw[hz];decide) ?_;intro gj C b8 az;have B:=L b8 ax B a_;have d6:=O b8 ax d6;have ew:=ay db b8
  try simp only[Aa]
  refine Ok.ky C az rfl rfl (by rw[bM,hz];decide) ?_;intro gk C ca a1;have B:=L ca az B a_;have d6:=O ca az d6;have dc:=ay ew ca
  try simp only[Aa]
  refine Ok.ky C a1 rfl rfl (by rw[bM,bM,hz];decide) ?_;intro gl C cb a2;have B:=L cb a1 B a_;have d6:=O cb a1 d6;have ey:=ay dc cb
  try simp only[Aa]
  refine Ok.ky C a2 rfl rfl (by rw[bM,bM,bM,hz];decide) ?_;intro de C cc af;have B:=L cc a2 B a_;have d6:=O cc a2 d6;have df:=ay ey cc
  try simp only[Aa]
  have C:de.get J=some (.cells ([Nk .i64 (Wo (p.take 1)),Nk .i64 (Wo (((p.drop 1).drop 1).take 2)),Nk .i64 (Wo ((((p.drop 1).drop 1).drop 2).take 2)),Nk .i64 (Wo (((((p.drop 1).drop 1).drop 2).drop 2).take 4)),Nk .i64 (Wo ((((((p.drop 1).drop 1).drop 2).drop 2).drop 4).take 6))]++Be (List.replicate 44 0)) 136):=C;rw[show ∀k:EV->R,Oz 44 1 (.ptr J 5) none none none k=k (.slice J 5 44 44 false)from fun k=>rfl];have E:((((((p.drop 1).drop 1).drop 2).drop 2).drop 4).drop 6).length=44:=by simp only[av];omega
  have dl:Rd de.lift Rr q (0+1+1+2+2+4+6) ((((((p.drop 1).drop 1).drop 2).drop 2).drop 4).drop 6):=d6.chg af (S:=fun _=>False) ⟨fun i _ _=>Bx _ _,aD _,fun w _ w2 _=>w2,fun y=>Dj y⟩ id id;refine Ok.bC (S:=fun i=>i=Rr) (RM (K:=K) (n:=44) dl (Dj af) c_) (fun _ _ p=>p.2.2.1) ?_;rintro cf fk aa s' ⟨aj,d7,_,ch⟩ ag cp ct;have ah:=ag.hb ch;have aj:Bs aa cf q (0+1+1+2+2+4+6) (((((((p.drop 1).drop 1).drop 2).drop 2).drop 4).drop 6).take 44):=aj.frame (ag.get _);have d7:Rd aa Rr q (0+1+1+2+2+4+6+44) (((((((p.drop 1).drop 1).drop 2).drop 2).drop 4).drop 6).drop 44):=by
   obtain⟨s0,g,e,f⟩:=d7.Mh;exact⟨⟨s0,by rw[ag.get];exact g,e,fun y=>⟨(f y).1,(f y).2.frame (ag.get _)⟩⟩,d7.ne⟩
  have B:=u cp af B a_;have C:=u cp af C a_;have ez:=up df cp;generalize gm:(((((p.drop 1).drop 1).drop 2).drop 2).drop 4).drop 6=body at aj d7 E fin T⊢;generalize hq:Wo ((p.drop 1).take 1)=bb at fin⊢;generalize Wo (p.take 1)=na at C fin T⊢;generalize Wo (((p.drop 1).drop 1).take 2)=nz at C fin T⊢;generalize Wo ((((p.drop 1).drop 1).drop 2).take 2)=no at C fin T⊢;generalize Wo (((((p.drop 1).drop 1).drop 2).drop 2).take 4)=ne at C fin T⊢;generalize Wo ((((((p.drop 1).drop 1).drop 2).drop 2).drop 4).take 6)=ns at C fin T⊢;have eM:body.take 44=body:=bQ a_;rw[eM]at aj fin T⊢;have eN:body.drop 44 = []:=List.drop_eq_nil_of_le a_;rw[eN]at d7;have hlen:lenOf cf=some 44:=by have:=aj.len;rw[E]at this;exact this
  have dg:Lm aa.lift 1 44 cf=some (Be body):=by have:=aj.lift.cells;rw[E]at this;exact this
  have eZ:=yu (h:=aa.lift) (i:=J) (n:=44) (r:=44) (op:=false) (t:=136) (hd:=[Nk .i64 na,Nk .i64 nz,Nk .i64 no,Nk .i64 ne,Nk .i64 ns]) (By:=Be (List.replicate 44 0)) (by rw[Bx];exact C) hlen c_ dg (by rw[Az,E]) (by rw[Az,bO]);have di:=ah _ _ C;refine Ok.pV (S:=fun i=>i=J) (by rcases ct with rfl|⟨w,rfl,_⟩<;>kernel_rfl) (by rcases ct with rfl|⟨w,rfl,_⟩<;>kernel_rfl) (fun w=>by rcases ct with rfl|⟨w,rfl,_⟩<;>kernel_rfl) (P:=fun v h'=>h'=aa.lift.put J (.cells ([Nk .i64 na,Nk .i64 nz,Nk .i64 no,Nk .i64 ne,Nk .i64 ns]++Be body) 136)) ⟨_,_,eZ,rfl⟩ (fun _ _ p=>by rw[p];exact(As.refl (S:=fun i=>i=J) aa.lift).Aq (.inl rfl) (show J<aa.lift.next from di) _) ?_;rintro gn fp cw s2 rfl dj bf _;have W:=bf.hb ah;have C:cw.get J=some (.cells ([Nk .i64 na,Nk .i64 nz,Nk .i64 no,Nk .i64 ne,Nk .i64 ns]++Be body) 136):=by rw[dj.get];exact Ae _ _ _
  have B:=L bf ah B a_;have d7:=O bf ah d7;have dm:=ay ez bf;simp only[Ac];have cl:([Nk .i64 na,Nk .i64 nz,Nk .i64 no,Nk .i64 ne,Nk .i64 ns]++Be body).length=49:=by rw[aF,Az,E];rfl
  have bad:∀ad:Ab,Ext cw ad->¬(bb=1/\hH ⟨na,nz,no,ne,ns,body⟩=true)->∀w:EV,Ok (Uz K (.ptr (h.next+2) 0) (.ptr J 0) (.bool true) w ad) _:=fun ad U fa w=>by
   simp only[Uz,Aa];rw[Ax (l:=Fr.zero.cells) rfl];exact fin Fr.zero 10 ad _ (fun _=>rfl) (U.hb W) (dm.trans U) (U.at W B) Fr.Gu (by rw[aH fa])
  by_cases hv:bb=1
  ·rw[show decide (¬Int.ofNat bb=1)=false from aU (by rw[hv];exact fun y=>y rfl)]
   simp only[Aa];rw[Cz C rfl,Ak cl];simp only[G1];refine(yr (K:=K) ⟨na,nz,no,ne,ns,body⟩).Ao ?_;rintro _ ad ⟨rfl,U⟩;generalize hH ⟨na,nz,no,ne,ns,body⟩=fb at fin bad⊢;cases fb with
   | false=>
    simp only[Aa,Uy,Ac];exact bad ad U (by simp) _
   | true=>
    have dp:=U.hb W;simp only[Aa,Uy,Ac,Bmd (d7.ext W U),I];simp only[Uz,Aa,aC,aA,KS];rw[Cz (U.at W C) rfl,Ak cl];simp only[G1];have r:=fin ⟨na,nz,no,ne,ns,body⟩ 0 ad (fun z=>Iq TT [RV.c (EV.ptr (h.next+2) 0) 136,RV.v (EV.int IntKind.i64 0)] z) (fun _=>rfl) dp (dm.trans U) (U.at W B) T (by rw[aK ⟨hv,rfl⟩]);simp only[eq_self]at r;exact r
  ·rw[show decide (¬Int.ofNat bb=1)=true from aR fun y=>hv (Int.ofNat.inj y)]
   simp only[Aa,Uy,Ac];exact bad cw (As.refl _) (fun y=>hv y.1) _
def hD(s:List Nat)(Ai off:Int):Fr × Int:=
 if ¬(Um s).2=0 then(Fr.zero,(Um s).2)else if ¬(Um s).1.Ai=Ai\/¬(Um s).1.off=off then(Fr.zero,12)else((Um s).1,0)
theorem A6i{s:List Nat}(hl:s.length=64)(hu:∀b∈s,b<256)(hb:HB h)(hK:10000<K)(Ai off:Int):
 Ok (s_ K Tu (.agg (Be s)) (I Ai) (I off) h) fun v h'=>v=.tuple [.agg (hD s Ai off).1.cells,I (hD s Ai off).2]/\(hD s Ai off).1.Wf/\Ext h h':=by
 unfold Tu;simp only[s_,Aa];rw[Fr.Hu];have x1:Ext h (((h.new (.cells Bh 73)).new (.cells (Be s) 32)).new (.cells Fr.zero.cells 136)):=((As.new _ _).Dn _).Dn _;have g2:(((h.new (.cells Bh 73)).new (.cells (Be s) 32)).new (.cells Fr.zero.cells 136)).get h.next=some (.cells Bh 73):=by
  rw[Ba _ (by show h.next<h.next+1+1;omega),Ba _ (aT _)];exact Ad _ _
 have g3:(((h.new (.cells Bh 73)).new (.cells (Be s) 32)).new (.cells Fr.zero.cells 136)).get (h.next+1)=some (.cells (Be s) 32):=by
  rw[Ba _ (by show h.next+1<h.next+1+1;omega)];exact Ad _ _
 have o:(((h.new (.cells Bh 73)).new (.cells (Be s) 32)).new (.cells Fr.zero.cells 136)).get (h.next+2)=some (.cells Fr.zero.cells 136):=Ad _ _;have n1:(((h.new (.cells Bh 73)).new (.cells (Be s) 32)).new (.cells Fr.zero.cells 136)).next=h.next+3:=rfl
 rw[show(h.new (.cells Bh 73)).next=h.next+1 from rfl,show((h.new (.cells Bh 73)).new (.cells (Be s) 32)).next=h.next+2 from rfl];generalize ((h.new (.cells Bh 73)).new (.cells (Be s) 32)).new (.cells Fr.zero.cells 136)=h1 at x1 g2 g3 o n1⊢;have C:=x1.hb hb;have zl:=Fr.Bm Fr.Gu;have E:=Bm8 hl hu;have fin:∀(f:Fr) (e:Int) (L:Ab) (kk:Ab->R),(∀h',kk h'=Iq TT [.c (.ptr (h.next+2) 0) 136,.v (I e)] h')->HB L->Ext h L->L.get (h.next+2)=some (.cells Fr.zero.cells 136)->f.Wf->(f,e)=hD s Ai off ->
  Ok (f_ 49 (.ptr (h.next+2) 0) (.agg f.cells) L kk) fun v h'=>v=.tuple [.agg (hD s Ai off).1.cells,I (hD s Ai off).2]/\(hD s Ai off).1.Wf/\Ext h h':=by
  intro f e L kk af ag x5 g5 wf he;have fl:=Fr.Bm wf;refine Ok.st f.cells g5 rfl (by show Fp f.cells=49;rw[Bb,fl]) (Bn (by rw[zl];exact fl.symm)) ?_;have g6:(L.put (h.next+2) (.cells f.cells 136)).get (h.next+2)=some (.cells f.cells 136):=Ae _ _ _;rw[af,Fi g6 pG.1 pG.2 fl,<-he];exact .ret ⟨rfl,wf,x5.Aq (.inr a_) (ag _ _ g5) _⟩
 have u64:(Be s).length=64:=by rw[Az,hl]
 rw[Cz g2 rfl,Ak Nt];simp only[G1];rw[Cz g3 rfl,Ak u64];simp only[G1];refine(Axy (K:=K) hl hu C hK).Ao ?_;rintro _ h2 ⟨rfl,X⟩;have O:=X.hb C;have o:=X.at C o;have ah:=x1.trans X;simp only[Aa];have Y:Ext h2 (h2.new (.cells Fr.zero.cells 136)):=As.new _ _;have B:(h2.new (.cells Fr.zero.cells 136)).get h2.next=some (.cells Fr.zero.cells 136):=Ad _ _
 have o:=Y.at O o;have J:=Y.hb O;have T:=ah.trans Y;have n2:h.next+3<=h2.next:=by have:=X.next;omega
 generalize h2.new (.cells Fr.zero.cells 136)=h3 at Y B o J T⊢;generalize h2.next=U at B n2⊢
 have dl:=Fr.Bm E;refine Ok.st (Um s).1.cells B rfl (by show Fp (Um s).1.cells=49;rw[Bb,dl]) (Bn (by rw[zl];exact dl.symm)) ?_;have lF:=J _ _ B;have B:(h3.put U (.cells (Um s).1.cells 136)).get U=some (.cells (Um s).1.cells 136):=Ae _ _ _;have o:(h3.put U (.cells (Um s).1.cells 136)).get (h.next+2)=some (.cells Fr.zero.cells 136):=by rw[Af _];exact o
 have W:Ext h (h3.put U (.cells (Um s).1.cells 136)):=T.Aq (.inr a_) lF _;have u:=J.put lF (.cells (Um s).1.cells 136);have e0:EV.cells (EV.agg (Um s).1.cells)=(Um s).1.cells:=rfl;generalize h3.put U (.cells (Um s).1.cells 136)=h4 at B o W u⊢;unfold hD at fin⊢;generalize (Um s).2=e at fin⊢;generalize (Um s).1=f at fin E dl B⊢;simp only[I,Ac];by_cases he:e=0
 ·subst he
  simp only[aC,aA,Aa,Li,Cx B rfl,ak]at fin⊢;have l1:f.cells[1]? = some (I f.Ai):=rfl;have l2:f.cells[2]? = some (I f.off):=rfl;rw[l1];simp only[G1,I,Ac];by_cases hz:f.Ai=Ai
  ·simp only[hz,aC,aA,Aa,Cx B rfl,false_or]at fin⊢
   rw[l2];simp only[G1,I,Ac];by_cases ho:f.off=off
   ·simp only[ho,aC,aA,Aa,sZ,ak,K_]at fin⊢
    rw[Cz B rfl,Ak dl];exact fin f 0 h4 _ (fun _=>rfl) u W o E rfl
   ·simp only[ho,aG,aB,Aa,sZ,bN]at fin⊢
    rw[Ax (l:=Fr.zero.cells) rfl];exact fin Fr.zero 12 h4 _ (fun _=>rfl) u W o Fr.Gu rfl
  ·simp only[hz,aG,aB,Aa,true_or,bN,sZ]at fin⊢
   rw[Ax (l:=Fr.zero.cells) rfl];exact fin Fr.zero 12 h4 _ (fun _=>rfl) u W o Fr.Gu rfl
 ·simp only[he,aG,aB,Aa,bN]at fin⊢
  rw[Ax (l:=Fr.zero.cells) rfl];exact fin Fr.zero e h4 _ (fun _=>rfl) u W o Fr.Gu rfl
structure En where
 kind:Int
 first:Int
 count:Int
 block:Int
 many:Int
 Bj:Int
 bytes:List Nat
def En.cells(e:En):List EV:=[I e.kind,I e.first,I e.count,I e.block,I e.many,I e.Bj]++Be e.bytes
structure En.Wf(e:En):Prop where
 len:e.bytes.length=32
 u8:∀b∈e.bytes,b<256
theorem En.Bm {e:En}(w:e.Wf):e.cells.length=38:=by
 unfold En.cells;rw[aF,Az,w.len];rfl
theorem Bio(a b:Nat):jL (Nk .u8 a) (Nk .u8 b)=some (decide (a=b)):=by
 show Bc (Nat.beq (Ql .u8) (Ql .u8)) (some (iN (Int.ofNat a) (Int.ofNat b))) none=_;rw[cO,Aj,kX];exact congrArg some (eU.2 ⟨Int.ofNat.inj,congrArg _⟩)
theorem yv:∀(a b:List Nat),a.length=b.length->Fk (Be a) (Be b)=some (decide (a=b))
 | [],[],_=>rfl
 | x::a,y::b,h=>by
  have ih:=yv a b (by simpa using h);show(match jL (Nk .u8 x) (Nk .u8 y)with|some true=>Fk (Be a) (Be b)|some false=>(match Fk (Be a) (Be b)with|some _=>some false|none=>none)|none=>none)=_;rw[Bio,ih];by_cases o:x=y
  ·rw[aR o]
   subst o;simp
  ·rw[aU o]
   simp[o]
theorem yw:∀(a:List Nat),shaped (List.replicate a.length 0) (Be a)=true
 | []=>rfl
 | x::a=>by
  show Bc (Nat.beq 0 0) (shaped (List.replicate a.length 0) (Be a)) false=true;rw[yw a];rfl
theorem Be4(o:TT.eqs t=some (List.replicate n 0)){a b:List Nat}(u:a.length=n)(hb:b.length=n)(k:EV->R):K1 iH (bin TT .eql t) (.agg (Be a)) (.agg (Be b)) k=k (.bool (decide (a=b))):=by
 have e:bin TT .eql t (.agg (Be a)) (.agg (Be b))=some (.bool (decide (a=b))):=by
  show(match jI TT t (.agg (Be a)) (.agg (Be b))with|some b=>some (EV.bool b)|none=>none)=_;have:jI TT t (.agg (Be a)) (.agg (Be b))=some (decide (a=b)):=by
   show(match TT.eqs t with|some sh=>Bc (shaped sh (Be a)) (Fk (Be a) (Be b)) none|none=>none)=_;rw[o];simp only;rw[show List.replicate n 0=List.replicate a.length 0 by rw[u],yw,Aj,yv a b a_]
  rw[this]
 show oB k (bin TT .eql t (.agg (Be a)) (.agg (Be b)))=_;rw[e];rfl
theorem PZ(o:TT.eqs t=some (List.replicate n 0)){a b:List Nat}(u:a.length=n)(hb:b.length=n)(k:EV->R):K1 iK (bin TT .neq t) (.agg (Be a)) (.agg (Be b)) k=k (.bool (decide (¬a=b))):=by
 have e:bin TT .neq t (.agg (Be a)) (.agg (Be b))=some (.bool (decide (¬a=b))):=by
  show(match jI TT t (.agg (Be a)) (.agg (Be b))with|some b=>some (EV.bool (Bc b false true))|none=>none)=_;have:jI TT t (.agg (Be a)) (.agg (Be b))=some (decide (a=b)):=by
   show(match TT.eqs t with|some sh=>Bc (shaped sh (Be a)) (Fk (Be a) (Be b)) none|none=>none)=_;rw[o];simp only;rw[show List.replicate n 0=List.replicate a.length 0 by rw[u],yw,Aj,yv a b a_]
  rw[this];by_cases h:a=b
  ·simp[h,Bc]
  ·simp[h,Bc]
 show oB k (bin TT .neq t (.agg (Be a)) (.agg (Be b)))=_;rw[e];rfl
theorem P_:TT.eqs 81=some (List.replicate 32 0):=by kernel_rfl
theorem Bp2:TT.eqs 134=some (List.replicate 44 0):=by kernel_rfl
theorem Qb(n a b:Int)(h:Ab):Ps K (.int .i64 n) (.int .i64 a) (.int .i64 b) h=some (.bool (wi n a b),h):=by
 simp only[Ps,Ac,Aa];by_cases o:a<=n
 ·simp only[o,aB,Aa,Ac,wm,wi,bG]
 ·simp only[o,aA,Aa,wm,wi,a8]
def Di:List Nat:=List.replicate 32 0
def uQ(e:En):Bool:=
 if e.kind=1 then wi e.count 1 4&&decide (e.many=0)else
 if e.kind=2 then(decide (e.count=1)&&wi e.many 1 (256-e.block))&&decide (e.bytes=Di)else
 if e.kind=3 then decide (e.count=1)&&decide (e.many=0)else false
theorem Fx:List.replicate 32 (EV.int .u8 0)=Be Di:=by kernel_rfl
theorem Ax0{e:En}(w:e.Wf)(B:wi e.block 0 255=true):Ok (Pq K (.agg e.cells) h) fun v h'=>v=.bool (uQ e)/\Ext h h':=by
 obtain⟨b0,b1⟩:=Gd.1 B;simp only[Pq,Aa];obtain⟨X,T,o,u,_⟩:=nW h (.cells e.cells 151);rw[T];have l0:e.cells[0]? = some (I e.kind):=rfl;have C:e.cells[2]? = some (I e.count):=rfl;have U:e.cells[3]? = some (I e.block):=rfl;have E:e.cells[4]? = some (I e.many):=rfl;have W:Ly e.cells 6 32=some (Be e.bytes):=by
  rw[Eg (by rw[En.Bm w];decide)];show some (List.take 32 (Be e.bytes))=_;rw[bQ (by rw[Az,w.len];decide)]
 simp only[Cx u rfl,Aa,l0,I,Ac];unfold uQ;by_cases J:e.kind=1
 ·simp only[J,aB,Aa,Cx u rfl,C,I,Qb,Ac,bN]
  cases wi e.count 1 4 with
  | false=>simp only[Aa,Q1,Ac];exact .ret ⟨rfl,o⟩
  | true=>
   simp only[Aa,Cx u rfl,E,I,Ac,Q1,bG];exact .ret ⟨rfl,o⟩
 ·simp only[J,aA,Aa,ak,Ac]
  by_cases L:e.kind=2
  ·simp only[L,aB,Aa,Cx u rfl,C,I,Ac,bN]
   by_cases c1:e.count=1
   ·simp only[c1,aB,Aa,Cx u rfl,E,U,I,Ac,bG]
    rw[Cn,Qb];simp only[Aa,Q0];cases wi e.many 1 (256-e.block)with
    | false=>simp only[Aa,Ma,Ac,a8];exact .ret ⟨rfl,o⟩
    | true=>
     simp only[Aa,Ac,Cz u rfl,W];rw[Ax (l:=Be Di) (by rw[Fx];rfl),Be4 P_ w.len (by rfl)];simp only[Ma,Aa,bG];exact .ret ⟨rfl,o⟩
   ·simp only[c1,aA,Aa,Ac,Q0,Ma,a8]
    exact .ret ⟨rfl,o⟩
  ·simp only[L,aA,Aa,ak,Ac]
   by_cases O:e.kind=3
   ·simp only[O,aB,Aa,Cx u rfl,C,I,Ac,bN]
    by_cases c1:e.count=1
    ·simp only[c1,aB,Aa,Cx u rfl,E,I,Ac,Q2,bG]
     exact .ret ⟨rfl,o⟩
    ·simp only[c1,aA,Aa,Ac,Q2,a8]
     exact .ret ⟨rfl,o⟩
   ·simp only[O,aA,Aa,ak,Y5]
    exact .ret ⟨rfl,o⟩
def iT(e:En):Bool:=wi e.first 0 281474976710655&&(wi e.block 0 255&&(wi e.Bj 0 65535&&uQ e))
theorem Az5{e:En}(w:e.Wf):Ok (Rb K (.agg e.cells) h) fun v h'=>v=.bool (iT e)/\Ext h h':=by
 simp only[Rb,Aa];obtain⟨O,C,o,u,_⟩:=nW h (.cells e.cells 151);rw[C];have l1:e.cells[1]? = some (I e.first):=rfl;have E:e.cells[3]? = some (I e.block):=rfl;have J:e.cells[5]? = some (I e.Bj):=rfl;simp only[Cx u rfl,Aa,l1,I,Qb,Ac];unfold iT;cases wi e.first 0 281474976710655 with
 | false=>simp only[Aa,Ac,Sv,Nv,Jo];exact .ret ⟨rfl,o⟩
 | true=>
 simp only[Aa,Ac,Cx u rfl,E,I,Qb,Sv,bG];cases B:wi e.block 0 255 with
 | false=>simp only[Aa,Ac,Nv,Jo];exact .ret ⟨rfl,o⟩
 | true=>
 simp only[Aa,Ac,Cx u rfl,J,I,Qb,Nv,bG];cases wi e.Bj 0 65535 with
 | false=>simp only[Aa,Ac,Jo];exact .ret ⟨rfl,o⟩
 | true=>
 simp only[Aa,Ac,bG];rw[Cz u rfl,Ak (En.Bm w)];simp only[G1];refine(Ax0 (K:=K) w B).Ao ?_;rintro _ h2 ⟨rfl,L⟩;simp only[Jo,Aa];exact .ret ⟨rfl,o.trans L⟩
variable {e:En}
def Xt(e:En):List Nat:=Tf 6 e.first.toNat++Tf 1 e.count.toNat++Tf 1 e.block.toNat++Tf 2 e.many.toNat++Tf 2 e.Bj.toNat++e.bytes
def Ve:List Nat:=List.replicate 44 0
theorem yx:List.replicate 44 (EV.int .u8 0)=Be Ve:=by kernel_rfl
def Du(e:En):List Nat × Int:=if iT e=true then(Xt e,0)else(Ve,10)
theorem RO(w:e.Wf):(Xt e).length=44:=by
 unfold Xt;simp only[aF,Gn,w.len]
theorem Bkt(w:e.Wf):∀b∈Xt e,b<256:=fun b hb=>by
 unfold Xt at hb;simp only[bH]at hb;rcases hb with((((hb|hb)|hb)|hb)|hb)|hb
 ·exact Yf _ _ b hb
 ·exact Yf _ _ b hb
 ·exact Yf _ _ b hb
 ·exact Yf _ _ b hb
 ·exact Yf _ _ b hb
 ·exact w.u8 b hb
theorem rF(w:e.Wf):(Du e).1.length=44:=by
 unfold Du;split
 ·exact RO w
 ·rfl
theorem RP(w:e.Wf):∀b∈(Du e).1,b<256:=by
 unfold Du;split
 ·exact Bkt w
 ·intro b hb;rw[bY hb];decide
theorem oz:TT.size 134=some 44/\TT.agg 134=some true:=⟨by kernel_rfl,by kernel_rfl⟩
theorem yy(u:iT e=true):(0<=e.first/\e.first<=281474976710655)/\(0<=e.block/\e.block<=255)/\(0<=e.Bj/\e.Bj<=65535)/\(1<=e.count/\e.count<=4)/\(0<=e.many/\e.many<=256)/\(1<=e.kind/\e.kind<=3):=by
 unfold iT at u;simp only[aX]at u;obtain⟨B,C,E,o⟩:=u;have a:=Gd.1 B;have b:=Gd.1 C;have c:=Gd.1 E;refine⟨a,b,c,?_⟩;unfold uQ at o;split at o
 ·simp only[aX,aW]at o
  have:=Gd.1 o.1;omega
 ·split at o
  ·simp only[aX,aW]at o
   have:=Gd.1 o.1.2;omega
  ·split at o
   ·simp only[aX,aW]at o
    omega
   ·cases o
theorem RQ(w:e.Wf)(hb:HB h)(hK:10000<K):
 Ok (Oy K (.agg e.cells) h) fun v h'=>v=.tuple [.agg (Be (Du e).1),I (Du e).2]/\Ext h h':=by
 have l1:e.cells[1]? = some (I e.first):=rfl;have l2:e.cells[2]? = some (I e.count):=rfl;have l3:e.cells[3]? = some (I e.block):=rfl;have l4:e.cells[4]? = some (I e.many):=rfl;have l5:e.cells[5]? = some (I e.Bj):=rfl;have aq:=En.Bm w;simp only[Oy,Aa];rw[yx];have x1:Ext h (((h.new (.cells e.cells 151)).new (.cells (Be Ve) 134)).new (.cells (Be Ve) 134)):=((As.new _ _).Dn _).Dn _;have C:(((h.new (.cells e.cells 151)).new (.cells (Be Ve) 134)).new (.cells (Be Ve) 134)).get h.next=some (.cells e.cells 151):=by
  rw[Ba _ (by show h.next<h.next+1+1;omega),Ba _ (aT _)];exact Ad _ _
 have B:(((h.new (.cells e.cells 151)).new (.cells (Be Ve) 134)).new (.cells (Be Ve) 134)).get (h.next+1)=some (.cells (Be Ve) 134):=by
  rw[Ba _ (by show h.next+1<h.next+1+1;omega)];exact Ad _ _
 have u:(((h.new (.cells e.cells 151)).new (.cells (Be Ve) 134)).new (.cells (Be Ve) 134)).get (h.next+2)=some (.cells (Be Ve) 134):=Ad _ _;have n1:(((h.new (.cells e.cells 151)).new (.cells (Be Ve) 134)).new (.cells (Be Ve) 134)).next=h.next+3:=rfl
 rw[show(h.new (.cells e.cells 151)).next=h.next+1 from rfl,show((h.new (.cells e.cells 151)).new (.cells (Be Ve) 134)).next=h.next+2 from rfl];generalize ((h.new (.cells e.cells 151)).new (.cells (Be Ve) 134)).new (.cells (Be Ve) 134)=h1 at x1 C B u n1⊢;have X:=x1.hb hb;have zl:(Be Ve).length=44:=by rw[Az];rfl
 have fin:∀(l:List Nat) (er:Int) (h5:Ab) (kk:Ab->R),(∀h',kk h'=Iq TT [.c (.ptr (h.next+1) 0) 134,.v (I er)] h')->HB h5->Ext h h5->h5.get (h.next+1)=some (.cells (Be Ve) 134)->l.length=44->(l,er)=Du e ->
  Ok (f_ 44 (.ptr (h.next+1) 0) (.agg (Be l)) h5 kk) fun v h'=>v=.tuple [.agg (Be (Du e).1),I (Du e).2]/\Ext h h':=by
  intro l er h5 kk bf J x5 g5 hl he;have fl:(Be l).length=44:=by rw[Az,hl]
  refine Ok.st (Be l) g5 rfl (by show Fp (Be l)=44;rw[Bb,fl]) (Bn (by rw[zl];exact fl.symm)) ?_;have g6:(h5.put (h.next+1) (.cells (Be l) 134)).get (h.next+1)=some (.cells (Be l) 134):=Ae _ _ _;rw[bf,Fi g6 oz.1 oz.2 fl,<-he];exact .ret ⟨rfl,x5.Aq (.inr a_) (J _ _ g5) _⟩
 rw[Cz C rfl,Ak aq];simp only[G1];refine(Az5 (K:=K) w).Ao ?_;rintro _ h2 ⟨rfl,x2⟩;have O:=x2.hb X;have au:=x1.trans x2;have C:=x2.at X C;have B:=x2.at X B;have u:=x2.at X u;have n2:h.next+3<=h2.next:=by have:=x2.next;omega
 unfold Du at fin⊢;cases hr:iT e with
 | false=>
  rw[hr]at fin;simp only[Aa,aV,ak]at fin⊢;rw[Cz u rfl,Ak zl];simp only[G1];exact fin Ve 10 h2 _ (fun _=>rfl) O au B rfl rfl
 | true=>
 rw[hr]at fin;simp only[Aa,bN,KN]at fin⊢;obtain⟨⟨a1,b1⟩,⟨a2,b2⟩,⟨a3,b3⟩,⟨a4,b4⟩,⟨a5,b5⟩,_⟩:=yy hr;have p0:lj (h2.new (.cells [.Am,.bool false] 222)) h2.next 222 [] false:=⟨.Am,0,Ad _ _,.nil _ _ _ _,fun y=>absurd y (bX _)⟩
 have x3:Ext h2 (h2.new (.cells [.Am,.bool false] 222)):=As.new _ _;have C:=x3.at O C;have B:=x3.at O B;have u:=x3.at O u;have T:=x3.hb O;have aw:=au.trans x3;generalize h2.new (.cells [.Am,.bool false] 222)=h3 at p0 x3 C B u T aw⊢;generalize hP:h2.next=P at p0 n2⊢
 have up:∀{ha hc:Ab},Ext h ha->As (fun i=>P<=i) ha hc->Ext h hc:=fun x c=>x.then c fun j hj hl=>by
  have hj:P<=j:=hj;omega
 have E:∀{ha hc:Ab} {i:Nat} {o:Ds},As (fun i=>P<=i) ha hc->HB ha->ha.get i=some o->i<P->hc.get i=some o:=fun c hb g hi=>c.at hb g a_
 rw[Cx C rfl,l1];simp only[G1];refine(Lh (K:=K) (w:=6) a_ p0 T (by simp) c_ c_ (v:=e.first)).Ao ?_;rintro _ h5 ⟨p,c,J⟩;rw[X9 (b:=281474976710655) a1 b1 c_,aK rfl]at p;have x5:=up aw c;have C:=E c T C a_;have B:=E c T B a_;have u:=E c T u a_;rw[Cx C rfl,l2];simp only[G1];refine(Lh (K:=K) (w:=1) a_ p J (by simp[Gn]) c_ c_ (v:=e.count)).Ao ?_;rintro _ h6 ⟨p,c,Y⟩;rw[X9 (b:=4) a_ b4 c_,aK rfl]at p;have x6:=up x5 c;have C:=E c J C a_;have B:=E c J B a_;have u:=E c J u a_;rw[Cx C rfl,l3];simp only[G1];refine(Lh (K:=K) (w:=1) a_ p Y (by simp[Gn]) c_ c_ (v:=e.block)).Ao ?_;rintro _ h7 ⟨p,c,aa⟩;rw[X9 (b:=255) a2 b2 c_,aK rfl]at p;have x7:=up x6 c;have C:=E c Y C a_;have B:=E c Y B a_;have u:=E c Y u a_;rw[Cx C rfl,l4];simp only[G1];refine(Lh (K:=K) (w:=2) a_ p aa (by simp[Gn]) c_ c_ (v:=e.many)).Ao ?_;rintro _ h8 ⟨p,c,ad⟩;rw[X9 (b:=256) a5 b5 c_,aK rfl]at p;have x8:=up x7 c;have C:=E c aa C a_;have B:=E c aa B a_;have u:=E c aa u a_;rw[Cx C rfl,l5];simp only[G1];refine(Lh (K:=K) (w:=2) a_ p ad (by simp[Gn]) c_ c_ (v:=e.Bj)).Ao ?_;rintro _ h9 ⟨p,c,ah⟩;rw[X9 (b:=65535) a3 b3 c_,aK rfl]at p;have x9:=up x8 c;have C:=E c ad C a_;have B:=E c ad B a_;have u:=E c ad u a_
 try simp only[Aa]
 rw[show ∀k:EV->R,Oz 32 1 (.ptr h.next 6) none none none k=k (.slice h.next 6 32 32 false)from fun k=>rfl];have bn:Lm h9 1 32 (.slice h.next 6 32 32 false)=some (Be e.bytes):=by
  show Uw h9 h.next 6 32=_
  unfold Uw lS;rw[C];show Ly e.cells 6 32=_;rw[Eg (by rw[aq];decide)];show some (List.take 32 (Be e.bytes))=_;rw[bQ (by rw[Az,w.len];decide)]
 refine(RH (K:=K) (n:=32) p ah (by simp[Gn]) rfl c_ c_ bn w.len).Ao ?_;rintro _ cG ⟨p,c,U⟩;have bo:=up x9 c;have B:=E c ah B a_;have u:=E c ah u a_;have ep:([]++Tf 6 e.first.toNat++Tf 1 e.count.toNat++Tf 1 e.block.toNat++Tf 2 e.many.toNat++Tf 2 e.Bj.toNat++e.bytes)=Xt e:=by
  unfold Xt;rw[dN]
 have ay:∀b:Bool,(b||!true)=b:=c_
 rw[ep]at p;simp only[ay]at p;have L:=RO w;refine(RI (K:=K) p U (by rw[L];decide)).Ao ?_;rintro _ ai ⟨y,q',rfl,ry,W,ae,lq⟩;have B:=W.at U B;have u:=W.at U u;have az:=bo.trans W;simp only[Aa];rw[show ∀k:EV->R,Oz 44 1 (.ptr (h.next+2) 0) none none none k=k (.slice (h.next+2) 0 44 44 false)from fun k=>rfl];have a6:=ry.bs (by rw[L];decide);have hlen:=a6.len;have af:=a6.cells;rw[L]at hlen af;have a7:=yu (h:=ai) (i:=h.next+2) (n:=44) (r:=44) (op:=false) (t:=134) (hd:=[]) (By:=Be Ve) u hlen c_ af (by rw[Az,L]) zl;rw[show([]:List EV).length=0 from rfl,dN]at a7;rw[a7,Ar];have ba:=ae _ _ u;have u:(ai.put (h.next+2) (.cells (Be (Xt e)) 134)).get (h.next+2)=some (.cells (Be (Xt e)) 134):=Ae _ _ _;have B:(ai.put (h.next+2) (.cells (Be (Xt e)) 134)).get (h.next+1)=some (.cells (Be Ve) 134):=by rw[Af _];exact B
 rw[Cz u rfl,Ak (by rw[Az,L])];simp only[G1];exact fin (Xt e) 0 _ _ (fun _=>rfl) (ae.put ba _) (az.Aq (.inr a_) ba _) B L rfl
theorem Ba3(a b c d e:Int){l:List EV}(o:l.length=44):iU (D1 [(0,1),(1,1),(2,1),(3,1),(4,1),(5,44)]) [(0,I a),(1,I b),(2,I c),(3,I d),(4,I e),(5,.agg l)] Fr.zero.cells=some ([I a,I b,I c,I d,I e]++l):=by
 have hs:=qd [I a,I b,I c,I d,I e] (Be (List.replicate 44 0)) l (by rw[Az,bO,o]);rw[<-Un]at hs;show Bc (Nat.beq (Fp l) 44) (oB (fun z=>some z) (Mf ([I a,I b,I c,I d,I e]++Be (List.replicate 44 0)) 5 l)) none=_;rw[Bb,o,cO,Aj];rw[show(5:Nat) = [I a,I b,I c,I d,I e].length from rfl,hs];rfl
def C8(e:En)(Ai off Ap seq:Int):Fr × Int:=
 if iT e=true/\hH ⟨e.kind,Ai,off,Ap,seq,(Du e).1⟩=true/\e.first<=seq/\seq-e.count<e.first then(⟨e.kind,Ai,off,Ap,seq,(Du e).1⟩,0)else(Fr.zero,10)
theorem sg(w:e.Wf)(Ai off Ap seq:Int):(C8 e Ai off Ap seq).1.Wf:=by
 unfold C8;split
 ·exact⟨rF w,RP w⟩
 ·exact Fr.Gu
theorem yz(w:e.Wf)(hb:HB h)(hK:10000<K)(Ai off Ap seq:Int):
 Ok (J6 K (.agg e.cells) (I Ai) (I off) (I Ap) (I seq) h) fun v h'=>v=.tuple [.agg (C8 e Ai off Ap seq).1.cells,I (C8 e Ai off Ap seq).2]/\Ext h h':=by
 have l0:e.cells[0]? = some (I e.kind):=rfl;have l1:e.cells[1]? = some (I e.first):=rfl;have l2:e.cells[2]? = some (I e.count):=rfl;have ay:=En.Bm w;have zl:=Fr.Bm Fr.Gu;have X:(⟨e.kind,Ai,off,Ap,seq,(Du e).1⟩:Fr).Wf:=⟨rF w,RP w⟩;have fl:=Fr.Bm X;simp only[J6,Aa];rw[Fr.Hu];have x1:Ext h ((h.new (.cells e.cells 151)).new (.cells Fr.zero.cells 136)):=(As.new _ _).Dn _;have u:((h.new (.cells e.cells 151)).new (.cells Fr.zero.cells 136)).get h.next=some (.cells e.cells 151):=by
  rw[Ba _ (aT _)];exact Ad _ _
 have o:((h.new (.cells e.cells 151)).new (.cells Fr.zero.cells 136)).get (h.next+1)=some (.cells Fr.zero.cells 136):=Ad _ _;have n1:((h.new (.cells e.cells 151)).new (.cells Fr.zero.cells 136)).next=h.next+2:=rfl
 rw[show(h.new (.cells e.cells 151)).next=h.next+1 from rfl];generalize (h.new (.cells e.cells 151)).new (.cells Fr.zero.cells 136)=h1 at x1 u o n1⊢;have T:=x1.hb hb;have fin:∀(f:Fr) (er:Int) (J:Ab) (kk:Ab->R),(∀h',kk h'=Iq TT [.c (.ptr (h.next+1) 0) 136,.v (I er)] h')->HB J->Ext h J->J.get (h.next+1)=some (.cells Fr.zero.cells 136)->f.Wf->(f,er)=C8 e Ai off Ap seq ->
  Ok (f_ 49 (.ptr (h.next+1) 0) (.agg f.cells) J kk) fun v h'=>v=.tuple [.agg (C8 e Ai off Ap seq).1.cells,I (C8 e Ai off Ap seq).2]/\Ext h h':=by
  intro f er J kk a1 L Y u wf he;have fl:=Fr.Bm wf;refine Ok.st f.cells u rfl (by show Fp f.cells=49;rw[Bb,fl]) (Bn (by rw[zl];exact fl.symm)) ?_;have g6:(J.put (h.next+1) (.cells f.cells 136)).get (h.next+1)=some (.cells f.cells 136):=Ae _ _ _;rw[a1,Fi g6 pG.1 pG.2 fl,<-he];exact .ret ⟨rfl,Y.Aq (.inr a_) (L _ _ u) _⟩
 rw[Cz u rfl,Ak ay];simp only[G1];refine(RQ (K:=K) w T hK).Ao ?_;rintro _ h2 ⟨rfl,x2⟩;have aa:=x2.hb T;have a2:=x1.trans x2;have u:=x2.at T u;have o:=x2.at T o;have n2:h.next+2<=h2.next:=by have:=x2.next;omega
 simp only[Aa];rw[yx];have x3:Ext h2 (h2.new (.cells (Be Ve) 134)):=As.new _ _;have C:(h2.new (.cells (Be Ve) 134)).get h2.next=some (.cells (Be Ve) 134):=Ad _ _
 have u:=x3.at aa u;have o:=x3.at aa o;have ad:=x3.hb aa;have ai:=a2.trans x3;have n3:(h2.new (.cells (Be Ve) 134)).next=h2.next+1:=rfl
 generalize h2.new (.cells (Be Ve) 134)=h3 at x3 C u o ad ai n3⊢;generalize h2.next=P at C n2 n3⊢
 have bl:(Be (Du e).1).length=44:=by rw[Az,rF w]
 refine Ok.st (Be (Du e).1) C rfl (by show Fp (Be (Du e).1)=44;rw[Bb,bl]) (Bn (by rw[Az];exact bl.symm)) ?_;have aj:=ad _ _ C;have C:(h3.put P (.cells (Be (Du e).1) 134)).get P=some (.cells (Be (Du e).1) 134):=Ae _ _ _;have u:(h3.put P (.cells (Be (Du e).1) 134)).get h.next=some (.cells e.cells 151):=by rw[Af _];exact u
 have o:(h3.put P (.cells (Be (Du e).1) 134)).get (h.next+1)=some (.cells Fr.zero.cells 136):=by rw[Af _];exact o
 have x4:Ext h (h3.put P (.cells (Be (Du e).1) 134)):=ai.Aq (.inr a_) aj _;have U:=ad.put aj (.cells (Be (Du e).1) 134);have n4:(h3.put P (.cells (Be (Du e).1) 134)).next=P+1:=n3
 generalize h3.put P (.cells (Be (Du e).1) 134)=h4 at C u o x4 U n4⊢
 try simp only[Aa]
 rw[Cx u rfl,l0];simp only[G1];rw[Cz C rfl,Ak bl];simp only[G1]
 try rw[Fr.Hu]
 rw[Ax (Ba3 e.kind Ai off Ap seq bl)]
 try simp only[Aa]
 have Y:Ext h4 (h4.new (.cells Fr.zero.cells 136)):=As.new _ _;have B:(h4.new (.cells Fr.zero.cells 136)).get h4.next=some (.cells Fr.zero.cells 136):=Ad _ _
 have u:=Y.at U u;have o:=Y.at U o;have L:=Y.hb U;have al:=x4.trans Y;generalize h4.new (.cells Fr.zero.cells 136)=J at Y B u o L al⊢;generalize h4.next=Q at B n4⊢
 refine Ok.st (⟨e.kind,Ai,off,Ap,seq,(Du e).1⟩:Fr).cells B rfl (by show Fp (⟨e.kind,Ai,off,Ap,seq,(Du e).1⟩:Fr).cells=49;rw[Bb,fl]) (Bn (by rw[zl];exact fl.symm)) ?_;have ao:=L _ _ B;have B:(J.put Q (.cells (⟨e.kind,Ai,off,Ap,seq,(Du e).1⟩:Fr).cells 136)).get Q=some (.cells (⟨e.kind,Ai,off,Ap,seq,(Du e).1⟩:Fr).cells 136):=Ae _ _ _;have u:(J.put Q (.cells (⟨e.kind,Ai,off,Ap,seq,(Du e).1⟩:Fr).cells 136)).get h.next=some (.cells e.cells 151):=by rw[Af _];exact u
 have o:(J.put Q (.cells (⟨e.kind,Ai,off,Ap,seq,(Du e).1⟩:Fr).cells 136)).get (h.next+1)=some (.cells Fr.zero.cells 136):=by rw[Af _];exact o
 have x6:Ext h (J.put Q (.cells (⟨e.kind,Ai,off,Ap,seq,(Du e).1⟩:Fr).cells 136)):=al.Aq (.inr a_) ao _;have E:=L.put ao (.cells (⟨e.kind,Ai,off,Ap,seq,(Du e).1⟩:Fr).cells 136);generalize J.put Q (.cells (⟨e.kind,Ai,off,Ap,seq,(Du e).1⟩:Fr).cells 136)=h6 at B u o x6 E⊢;have a6:(Du e).2=if iT e=true then 0 else 10:=by unfold Du;split<;>rfl
 rw[a6];unfold C8 at fin⊢;generalize a7:(⟨e.kind,Ai,off,Ap,seq,(Du e).1⟩:Fr)=f at fin X fl B⊢;have no:∀W:Ab,Ext h6 W->¬(iT e=true/\hH f=true/\e.first<=seq/\seq-e.count<e.first)->Ok (Bt (D1 [(0,1),(1,1),(2,1),(3,1),(4,1),(5,44)]) Fr.zero.cells [] fun ba=>f_ 49 (.ptr (h.next+1) 0) ba W fun z=>Iq TT [.c (.ptr (h.next+1) 0) 136,.v (.int .i64 10)] z) _:=fun W O bb=>by
  rw[Ax (l:=Fr.zero.cells) rfl];exact fin Fr.zero 10 W _ (fun _=>rfl) (O.hb E) (x6.trans O) (O.at E o) Fr.Gu (by rw[aH bb])
 simp only[I,Ac];by_cases hr:iT e=true
 ·rw[aK hr]
  simp only[aC,aA,Aa];rw[Cz B rfl,Ak fl];simp only[G1];refine(yr (K:=K) f).Ao ?_;rintro _ W ⟨rfl,O⟩;have u:=O.at E u;cases hf:hH f with
  | false=>
   simp only[Aa,Ac,Nm,Jm,Ha];have r:=no W O (by rw[hf];simp);rw[hf]at r;exact r
  | true=>
   have ae:=hf;rw[<-a7]at ae;simp only[hH,aX]at ae;have bt:=Gd.1 ae.2.2.2.2;have bu:=(yy hr).2.2.2.1;have rr:=no W O;have rf:=fin f 0 W (fun z=>Iq TT [RV.c (EV.ptr (h.next+1) 0) 136,RV.v (EV.int IntKind.i64 0)] z) (fun _=>rfl) (O.hb E) (x6.trans O) (O.at E o) X;rw[hf]at rr rf;simp only[eq_self]at rr rf;simp only[Aa,Ac,Nm];rw[Cx u rfl,l1];simp only[G1,I,Ac];by_cases au:seq<e.first
   ·rw[show decide (seq<e.first)=true from aR au]
    simp only[Aa,Ac,Jm,Ha];exact rr fun y=>a_
   ·rw[show decide (seq<e.first)=false from aU au]
    simp only[Aa,Ac,Jm];rw[Cx u rfl,l1];simp only[G1];rw[Cx u rfl,l2];simp only[G1,I,Ac];rw[Cn];by_cases aw:e.first<=seq-e.count
    ·rw[show decide (e.first<=seq-e.count)=true from aR aw]
     simp only[Aa,Ac,Ha];exact rr fun y=>a_
    ·rw[show decide (e.first<=seq-e.count)=false from aU aw]
     simp only[Aa,Ac,Ha,KU];rw[Cz (O.at E B) rfl,Ak fl];exact rf (by rw[aK ⟨hr,trivial,a_,a_⟩])
 ·rw[aH hr]
  simp only[show ¬((10:Int)=0) from c_,aG,aB,Aa,Ac,Nm,Jm,Ha];exact no h6 (As.refl _) fun y=>hr y.1
def En.zero:En:=⟨0,0,0,0,0,0,Di⟩
theorem En.Hu:List.replicate 6 (EV.int .i64 0)++List.replicate 32 (EV.int .u8 0)=En.zero.cells:=by kernel_rfl
theorem En.Gu:En.zero.Wf:=⟨rfl,fun b hb=>by rw[bY hb];decide⟩
theorem uR:TT.size 151=some 38/\TT.agg 151=some true:=⟨by kernel_rfl,by kernel_rfl⟩
def Z1(kind:Int)(p:List Nat):En:=⟨kind,Wo (p.take 6),Wo ((p.drop 6).take 1),Wo (((p.drop 6).drop 1).take 1),Wo ((((p.drop 6).drop 1).drop 1).take 2),Wo (((((p.drop 6).drop 1).drop 1).drop 2).take 2),((((((p.drop 6).drop 1).drop 1).drop 2).drop 2).take 32)⟩
theorem RR{p:List Nat}(o:p.length=44)(hu:∀b∈p,b<256):(Z1 kind p).Wf:=by
 refine⟨?_,fun b hb=>hu b ?_⟩
 ·simp only[Z1,bK,av,o];decide
 ·simp only[Z1]at hb
  exact aM (aM (aM (aM (aM (bI hb)))))
def hM(kind:Int)(p:List Nat):En × Int:=
 if(Du (Z1 kind p)).2=0/\(Du (Z1 kind p)).1=p then(Z1 kind p,0)else(En.zero,10)
theorem RS{p:List Nat}(o:p.length=44)(hu:∀b∈p,b<256):(hM kind p).1.Wf:=by
 unfold hM;split
 ·exact RR o hu
 ·exact En.Gu
theorem Bbl(k:Int)(a b c d e:Nat):iU (D1 [(0,1),(1,1),(2,1),(3,1),(4,1),(5,1),(6,32)]) [(0,I k),(1,Nk .i64 a),(2,Nk .i64 b),(3,Nk .i64 c),(4,Nk .i64 d),(5,Nk .i64 e)] En.zero.cells=some ([I k,Nk .i64 a,Nk .i64 b,Nk .i64 c,Nk .i64 d,Nk .i64 e]++Be Di):=rfl
theorem A7s{p:List Nat}(hp:p.length=44)(hu:∀b∈p,b<256)(hb:HB h)(hK:10000<K)(kind:Int):
 Ok (sW K (I kind) (.agg (Be p)) h) fun v h'=>v=.tuple [.agg (hM kind p).1.cells,I (hM kind p).2]/\Ext h h':=by
 have zl:=En.Bm En.Gu;have ul:(Be p).length=44:=by rw[Az,hp]
 simp only[sW,Aa];rw[En.Hu];have x1:Ext h ((h.new (.cells (Be p) 134)).new (.cells En.zero.cells 151)):=(As.new _ _).Dn _;have B:((h.new (.cells (Be p) 134)).new (.cells En.zero.cells 151)).get h.next=some (.cells (Be p) 134):=by
  rw[Ba _ (aT _)];exact Ad _ _
 have C:((h.new (.cells (Be p) 134)).new (.cells En.zero.cells 151)).get (h.next+1)=some (.cells En.zero.cells 151):=Ad _ _;have n1:((h.new (.cells (Be p) 134)).new (.cells En.zero.cells 151)).next=h.next+2:=rfl
 rw[show(h.new (.cells (Be p) 134)).next=h.next+1 from rfl];generalize (h.new (.cells (Be p) 134)).new (.cells En.zero.cells 151)=h1 at x1 B C n1⊢;have bz:=x1.hb hb;have gP:=RR (kind:=kind) hp hu;have fin:∀(e:En) (er:Int) (h5:Ab) (kk:Ab->R),(∀h',kk h'=Iq TT [.c (.ptr (h.next+1) 0) 151,.v (I er)] h')->HB h5->Ext h h5->h5.get (h.next+1)=some (.cells En.zero.cells 151)->e.Wf->(e,er)=hM kind p ->
  Ok (f_ 38 (.ptr (h.next+1) 0) (.agg e.cells) h5 kk) fun v h'=>v=.tuple [.agg (hM kind p).1.cells,I (hM kind p).2]/\Ext h h':=by
  intro e er h5 kk dp ao x5 g5 wf he;have fl:=En.Bm wf;refine Ok.st e.cells g5 rfl (by show Fp e.cells=38;rw[Bb,fl]) (Bn (by rw[zl];exact fl.symm)) ?_;have g6:(h5.put (h.next+1) (.cells e.cells 151)).get (h.next+1)=some (.cells e.cells 151):=Ae _ _ _;rw[dp,Fi g6 uR.1 uR.2 fl,<-he];exact .ret ⟨rfl,x5.Aq (.inr a_) (ao _ _ g5) _⟩
 rw[show ∀k:EV->R,Oz 44 1 (.ptr h.next 0) none none none k=k (.slice h.next 0 44 44 false)from fun k=>rfl];have bs:Bs h1 (.slice h.next 0 44 44 false) h.next 0 p:=by
  refine⟨44,false,_,Be p,by rw[hp],a_,B,rfl,by rw[ul];omega,?_⟩;rw[cZ,hp,<-ul,cM]
 refine(RK (K:=K) bs bz).Ao ?_;rintro _ h5 ⟨Rr,q,rfl,d0,x5,ao,ey⟩;have B:=x5.at bz B;have C:=x5.at bz C;have dt:=x1.trans x5;have ez:Rr<h5.next:=by obtain⟨_,g,_⟩:=d0.Mh;exact ao _ _ g
 have eM:h.next+1<Rr:=by have:=d0.ne;omega
 have up:∀{ha hc:Ab},Ext h ha->As (fun i=>i=Rr) ha hc->Ext h hc:=fun x c=>x.then c fun j hj du=>by
  have hj:j=Rr:=hj;omega
 have u:∀{ha hc:Ab} {i:Nat} {o:Ds},As (fun i=>i=Rr) ha hc->HB ha->ha.get i=some o->i≠Rr->hc.get i=some o:=fun c hb g hi=>c.at hb g hi
 refine(kx (K:=K) (w:=6) d0 ao a_ c_ c_ a_ hu).Ao ?_;rintro _ h6 ⟨rfl,d1,c6,b5⟩;have B:=u c6 ao B a_;have C:=u c6 ao C a_;have x6:=up dt c6;refine(kx (K:=K) (w:=1) d1 b5 a_ c_ c_ (by simp only[av];omega) (fun b hb=>hu b (aM hb))).Ao ?_;rintro _ h7 ⟨rfl,d2,c7,b6⟩;have B:=u c7 b5 B a_;have C:=u c7 b5 C a_;have x7:=up x6 c7;refine(kx (K:=K) (w:=1) d2 b6 a_ c_ c_ (by simp only[av];omega) (fun b hb=>hu b (aM (aM hb)))).Ao ?_;rintro _ h8 ⟨rfl,d3,c8,b8⟩;have B:=u c8 b6 B a_;have C:=u c8 b6 C a_;have x8:=up x7 c8;refine(kx (K:=K) (w:=2) d3 b8 a_ c_ c_ (by simp only[av];omega) (fun b hb=>hu b (aM (aM (aM hb))))).Ao ?_;rintro _ h9 ⟨rfl,d4,c9,ca⟩;have B:=u c9 b8 B a_;have C:=u c9 b8 C a_;have x9:=up x8 c9;refine(kx (K:=K) (w:=2) d4 ca a_ c_ c_ (by simp only[av];omega) (fun b hb=>hu b (aM (aM (aM (aM hb)))))).Ao ?_;rintro _ ae ⟨rfl,d5,bj,aj⟩;have B:=u bj ca B a_;have C:=u bj ca C a_;have dw:=up x9 bj
 try rw[En.Hu]
 rw[Ax (Bbl kind _ _ _ _ _)]
 try simp only[Aa]
 have au:Ext ae (ae.new (.cells En.zero.cells 151)):=As.new _ _;have X:(ae.new (.cells En.zero.cells 151)).get ae.next=some (.cells En.zero.cells 151):=Ad _ _
 have ct:(ae.new (.cells En.zero.cells 151)).next=ae.next+1:=rfl
 have B:=au.at aj B;have C:=au.at aj C;have Y:=au.hb aj;have d5:=d5.ext aj au;have cw:=dw.trans au;have hF:Rr<ae.next:=by have:=c6.next;have:=c7.next;have:=c8.next;have:=c9.next;have:=bj.next;omega
 generalize ae.new (.cells En.zero.cells 151)=az at au X ct B C Y d5 cw⊢;generalize ae.next=Fb at X ct hF⊢
 have W:(((((p.drop 6).drop 1).drop 1).drop 2).drop 2).length=32:=by simp only[av];omega
 unfold hM Z1 at fin⊢;unfold Z1 at gP;generalize (((((p.drop 6).drop 1).drop 1).drop 2).drop 2)=body at d5 W fin gP⊢;generalize Wo (p.take 6)=J at fin gP⊢;generalize Wo ((p.drop 6).take 1)=L at fin gP⊢;generalize Wo (((p.drop 6).drop 1).take 1)=O at fin gP⊢;generalize Wo ((((p.drop 6).drop 1).drop 1).take 2)=T at fin gP⊢;generalize Wo (((((p.drop 6).drop 1).drop 1).drop 2).take 2)=U at fin gP⊢;have cx:body.take 32=body:=bQ a_;rw[cx]at fin gP⊢;have bt:([I kind,Nk .i64 J,Nk .i64 L,Nk .i64 O,Nk .i64 T,Nk .i64 U]++Be Di).length=38:=by rw[aF,Az];rfl
 refine Ok.st ([I kind,Nk .i64 J,Nk .i64 L,Nk .i64 O,Nk .i64 T,Nk .i64 U]++Be Di) X rfl (by show Fp ([I kind,Nk .i64 J,Nk .i64 L,Nk .i64 O,Nk .i64 T,Nk .i64 U]++Be Di)=38;rw[Bb,bt]) (Bn (by rw[zl];exact bt.symm)) ?_;have lF:=Y _ _ X;have a1:As (fun i=>i=Fb) az (az.put Fb (.cells ([I kind,Nk .i64 J,Nk .i64 L,Nk .i64 O,Nk .i64 T,Nk .i64 U]++Be Di) 151)):=(As.refl (S:=fun i=>i=Fb) az).Aq (.inl rfl) lF _;have X:(az.put Fb (.cells ([I kind,Nk .i64 J,Nk .i64 L,Nk .i64 O,Nk .i64 T,Nk .i64 U]++Be Di) 151)).get Fb=some (.cells ([I kind,Nk .i64 J,Nk .i64 L,Nk .i64 O,Nk .i64 T,Nk .i64 U]++Be Di) 151):=Ae _ _ _;have aa:=Y.put lF (.cells ([I kind,Nk .i64 J,Nk .i64 L,Nk .i64 O,Nk .i64 T,Nk .i64 U]++Be Di) 151);generalize az.put Fb (.cells ([I kind,Nk .i64 J,Nk .i64 L,Nk .i64 O,Nk .i64 T,Nk .i64 U]++Be Di) 151)=dx at a1 X aa⊢;have cG:∀{ha hc:Ab},Ext h ha->As (fun i=>i=Fb) ha hc->Ext h hc:=fun x c=>x.then c fun j hj du=>by
  have hj:j=Fb:=hj;omega
 have ag:∀{ha hc:Ab} {i:Nat} {o:Ds},As (fun i=>i=Fb) ha hc->HB ha->ha.get i=some o->i≠Fb->hc.get i=some o:=fun c hb g hi=>c.at hb g hi
 have B:=ag a1 Y B a_;have C:=ag a1 Y C a_;have d5:=d5.chg Y a1 (by have:=d5.ne;intro y;omega) (by intro y;omega);have dy:=cG cw a1
 try simp only[Aa]
 rw[show ∀k:EV->R,Oz 32 1 (.ptr Fb 6) none none none k=k (.slice Fb 6 32 32 false)from fun k=>rfl];have dl:Rd dx.lift Rr q (0+6+1+1+2+2) body:=d5.chg aa (S:=fun _=>False) ⟨fun i _ _=>Bx _ _,aD _,fun w _ w2 _=>w2,fun y=>Dj y⟩ id id;refine Ok.bC (S:=fun i=>i=Rr) (RM (K:=K) (n:=32) dl (Dj aa) c_) (fun _ _ p=>p.2.2.1) ?_;rintro c0 ei a2 s' ⟨a5,_,_,cb⟩ bu bk cc;have al:=bu.hb cb;have a5:=a5.frame (bu.get _);rw[cx]at a5;have B:=u bk aa B a_;have C:=u bk aa C a_;have X:=u bk aa X a_;have dT:=up dy bk;have hlen:lenOf c0=some 32:=by have:=a5.len;rw[W]at this;exact this
 have c5:Lm a2.lift 1 32 c0=some (Be body):=by have:=a5.lift.cells;rw[W]at this;exact this
 have ea:=yu (h:=a2.lift) (i:=Fb) (n:=32) (r:=32) (op:=false) (t:=151) (hd:=[I kind,Nk .i64 J,Nk .i64 L,Nk .i64 O,Nk .i64 T,Nk .i64 U]) (By:=Be Di) (by rw[Bx];exact X) hlen c_ c5 (by rw[Az,W]) (by rw[Az];rfl);have da:=al _ _ X;refine Ok.pV (S:=fun i=>i=Fb) (by rcases cc with rfl|⟨w,rfl,_⟩<;>kernel_rfl) (by rcases cc with rfl|⟨w,rfl,_⟩<;>kernel_rfl) (fun w=>by rcases cc with rfl|⟨w,rfl,_⟩<;>kernel_rfl) (P:=fun v h'=>h'=a2.lift.put Fb (.cells ([I kind,Nk .i64 J,Nk .i64 L,Nk .i64 O,Nk .i64 T,Nk .i64 U]++Be body) 151)) ⟨_,_,ea,rfl⟩ (fun _ _ p=>by rw[p];exact(As.refl (S:=fun i=>i=Fb) a2.lift).Aq (.inl rfl) (show Fb<a2.lift.next from da) _) ?_;rintro fe ej eb s2 rfl db bn _;have ah:=bn.hb al;have X:eb.get Fb=some (.cells (⟨kind,J,L,O,T,U,body⟩:En).cells 151):=by rw[db.get];exact Ae _ _ _
 have B:=ag bn al B a_;have C:=ag bn al C a_;have ec:=cG dT bn;generalize hE:(⟨kind,J,L,O,T,U,body⟩:En)=E at fin gP X⊢;have el:=En.Bm gP;rw[Cz X rfl,Ak el];simp only[G1];refine(RQ (K:=K) gP ah hK).Ao ?_;rintro _ ai ⟨rfl,a6⟩;have ad:=a6.hb ah;have B:=a6.at ah B;have C:=a6.at ah C;have X:=a6.at ah X;have bw:=ec.trans a6;have dc:=ad _ _ X
 try simp only[Aa]
 rw[yx];have aw:Ext ai (ai.new (.cells (Be Ve) 134)):=As.new _ _;have g8:(ai.new (.cells (Be Ve) 134)).get ai.next=some (.cells (Be Ve) 134):=Ad _ _
 have B:=aw.at ad B;have C:=aw.at ad C;have X:=aw.at ad X;have a7:=aw.hb ad;have bx:=bw.trans aw;have de:h.next+2<=ai.next:=by have:=x1.next;have:=bw.next;have:=ad _ _ (by assumption:ai.get (h.next+1)=some (.cells En.zero.cells 151));omega
 generalize ai.new (.cells (Be Ve) 134)=ax at aw g8 B C X a7 bx⊢;generalize ai.next=P at g8 dc de⊢
 have bl:(Be (Du E).1).length=44:=by rw[Az,rF gP]
 refine Ok.st (Be (Du E).1) g8 rfl (by show Fp (Be (Du E).1)=44;rw[Bb,bl]) (Bn (by rw[Az];exact bl.symm)) ?_;have l8:=a7 _ _ g8;have g8:(ax.put P (.cells (Be (Du E).1) 134)).get P=some (.cells (Be (Du E).1) 134):=Ae _ _ _;have B:(ax.put P (.cells (Be (Du E).1) 134)).get h.next=some (.cells (Be p) 134):=by rw[Af _];exact B
 have C:(ax.put P (.cells (Be (Du E).1) 134)).get (h.next+1)=some (.cells En.zero.cells 151):=by rw[Af _];exact C
 have X:(ax.put P (.cells (Be (Du E).1) 134)).get Fb=some (.cells E.cells 151):=by rw[Af _];exact X
 have ba:Ext h (ax.put P (.cells (Be (Du E).1) 134)):=bx.Aq (.inr a_) l8 _;have bb:=a7.put l8 (.cells (Be (Du E).1) 134);generalize ax.put P (.cells (Be (Du E).1) 134)=ch at g8 B C X ba bb⊢;simp only[I,Ac];have no:¬((Du E).2=0/\(Du E).1=p)->Ok (Bt (D1 [(0,1),(1,1),(2,1),(3,1),(4,1),(5,1),(6,32)]) En.zero.cells [] fun ed=>f_ 38 (.ptr (h.next+1) 0) ed ch fun z=>Iq TT [.c (.ptr (h.next+1) 0) 151,.v (.int .i64 10)] z) _:=fun ee=>by
  rw[Ax (l:=En.zero.cells) rfl];exact fin En.zero 10 ch _ (fun _=>rfl) bb ba C En.Gu (by rw[aH ee])
 by_cases h0:(Du E).2=0
 ·rw[show decide (¬(Du E).2=0)=false from aU fun y=>y h0]
  simp only[Aa];rw[Cz g8 rfl,Ak bl];simp only[G1];rw[Cz B rfl,Ak ul];simp only[G1];rw[PZ Bp2 (rF gP) hp];by_cases bo:(Du E).1=p
  ·rw[show decide (¬(Du E).1=p)=false from aU fun y=>y bo]
   simp only[sV,Aa,KO];rw[Cz X rfl,Ak el];exact fin E 0 ch _ (fun _=>rfl) bb ba C gP (by rw[aK ⟨h0,bo⟩])
  ·rw[show decide (¬(Du E).1=p)=true from aR bo]
   simp only[sV,Aa];exact no fun y=>bo y.2
 ·rw[show decide (¬(Du E).2=0)=true from aR h0]
  simp only[Aa,sV];exact no fun y=>h0 y.1
def Ux(f:Fr):En × Int:=
 if ¬(hM f.kind f.body).2=0 then(En.zero,(hM f.kind f.body).2)else
 if ¬(C8 (hM f.kind f.body).1 f.Ai f.off f.Ap f.seq).2=0 then(En.zero,(C8 (hM f.kind f.body).1 f.Ai f.off f.Ap f.seq).2)else((hM f.kind f.body).1,0)
theorem A04(w:f.Wf)(hb:HB h)(hK:10000<K):
 Ok (sY K (.agg f.cells) h) fun v h'=>v=.tuple [.agg (Ux f).1.cells,I (Ux f).2]/\(Ux f).1.Wf/\Ext h h':=by
 have l0:f.cells[0]? = some (I f.kind):=rfl;have l1:f.cells[1]? = some (I f.Ai):=rfl;have l2:f.cells[2]? = some (I f.off):=rfl;have l3:f.cells[3]? = some (I f.Ap):=rfl;have l4:f.cells[4]? = some (I f.seq):=rfl;have ai:=Fr.Bm w;have l5:Ly f.cells 5 44=some (Be f.body):=by
  rw[Eg (by rw[ai];decide)];show some (List.take 44 (Be f.body))=_;rw[bQ (by rw[Az,w.len];decide)]
 have zl:=En.Bm En.Gu;have E:=RS (kind:=f.kind) w.len w.u8;have ol:=En.Bm E;simp only[sY,Aa];rw[En.Hu];have x1:Ext h ((h.new (.cells f.cells 136)).new (.cells En.zero.cells 151)):=(As.new _ _).Dn _;have o:((h.new (.cells f.cells 136)).new (.cells En.zero.cells 151)).get h.next=some (.cells f.cells 136):=by
  rw[Ba _ (aT _)];exact Ad _ _
 have u:((h.new (.cells f.cells 136)).new (.cells En.zero.cells 151)).get (h.next+1)=some (.cells En.zero.cells 151):=Ad _ _;have n1:((h.new (.cells f.cells 136)).new (.cells En.zero.cells 151)).next=h.next+2:=rfl
 rw[show(h.new (.cells f.cells 136)).next=h.next+1 from rfl];generalize (h.new (.cells f.cells 136)).new (.cells En.zero.cells 151)=h1 at x1 o u n1⊢;have J:=x1.hb hb;have fin:∀(e:En) (er:Int) (L:Ab) (kk:Ab->R),(∀h',kk h'=Iq TT [.c (.ptr (h.next+1) 0) 151,.v (I er)] h')->HB L->Ext h L->L.get (h.next+1)=some (.cells En.zero.cells 151)->e.Wf->(e,er)=Ux f ->
  Ok (f_ 38 (.ptr (h.next+1) 0) (.agg e.cells) L kk) fun v h'=>v=.tuple [.agg (Ux f).1.cells,I (Ux f).2]/\(Ux f).1.Wf/\Ext h h':=by
  intro e er L kk al O W g5 wf he;have fl:=En.Bm wf;refine Ok.st e.cells g5 rfl (by show Fp e.cells=38;rw[Bb,fl]) (Bn (by rw[zl];exact fl.symm)) ?_;have g6:(L.put (h.next+1) (.cells e.cells 151)).get (h.next+1)=some (.cells e.cells 151):=Ae _ _ _;rw[al,Fi g6 uR.1 uR.2 fl,<-he];exact .ret ⟨rfl,wf,W.Aq (.inr a_) (O _ _ g5) _⟩
 rw[Cx o rfl,l0];simp only[G1];rw[Cz o rfl,l5];simp only[G1];refine(A7s (K:=K) w.len w.u8 J hK f.kind).Ao ?_;rintro _ h2 ⟨rfl,X⟩;have T:=X.hb J;have ao:=x1.trans X;have o:=X.at J o;have u:=X.at J u;have n2:h.next+2<=h2.next:=by have:=X.next;omega
 try simp only[Aa]
 try rw[En.Hu]
 have Y:Ext h2 (h2.new (.cells En.zero.cells 151)):=As.new _ _;have C:(h2.new (.cells En.zero.cells 151)).get h2.next=some (.cells En.zero.cells 151):=Ad _ _
 have o:=Y.at T o;have u:=Y.at T u;have U:=Y.hb T;have aa:=ao.trans Y;generalize h2.new (.cells En.zero.cells 151)=h3 at Y C o u U aa⊢;generalize h2.next=P at C n2⊢
 refine Ok.st (hM f.kind f.body).1.cells C rfl (by show Fp (hM f.kind f.body).1.cells=38;rw[Bb,ol]) (Bn (by rw[zl];exact ol.symm)) ?_;have ae:=U _ _ C;have C:(h3.put P (.cells (hM f.kind f.body).1.cells 151)).get P=some (.cells (hM f.kind f.body).1.cells 151):=Ae _ _ _;have o:(h3.put P (.cells (hM f.kind f.body).1.cells 151)).get h.next=some (.cells f.cells 136):=by rw[Af _];exact o
 have u:(h3.put P (.cells (hM f.kind f.body).1.cells 151)).get (h.next+1)=some (.cells En.zero.cells 151):=by rw[Af _];exact u
 have x4:Ext h (h3.put P (.cells (hM f.kind f.body).1.cells 151)):=aa.Aq (.inr a_) ae _;have B:=U.put ae (.cells (hM f.kind f.body).1.cells 151);generalize h3.put P (.cells (hM f.kind f.body).1.cells 151)=h4 at C o u x4 B⊢;unfold Ux at fin⊢;generalize (hM f.kind f.body).2=er at fin⊢;generalize (hM f.kind f.body).1=e at fin E ol C⊢;simp only[I,Ac];by_cases h0:er=0
 ·subst h0
  simp only[aC,aA,Aa,ak,KW]at fin⊢;rw[Cz C rfl,Ak ol];simp only[G1];rw[Cx o rfl,l1];simp only[G1,Aa];rw[Cx o rfl,l2];simp only[G1,Aa];rw[Cx o rfl,l3];simp only[G1,Aa];rw[Cx o rfl,l4];simp only[G1,Aa];refine(yz (K:=K) E B hK f.Ai f.off f.Ap f.seq).Ao ?_;rintro _ L ⟨rfl,W⟩;have O:=W.hb B;have u:=W.at B u;have C:=W.at B C;have af:=x4.trans W;generalize (C8 e f.Ai f.off f.Ap f.seq).2=ag at fin⊢;simp only[Aa,I,Ac];by_cases ah:ag=0
  ·subst ah
   simp only[aC,aA,Aa,ak,KV]at fin⊢;rw[Cz C rfl,Ak ol];exact fin e 0 L _ (fun _=>rfl) O af u E rfl
  ·simp only[ah,aG,aB,Aa,bN]at fin⊢
   rw[Ax (l:=En.zero.cells) rfl];exact fin En.zero ag L _ (fun _=>rfl) O af u En.Gu rfl
 ·simp only[h0,aG,aB,Aa,bN]at fin⊢
  rw[Ax (l:=En.zero.cells) rfl];exact fin En.zero er h4 _ (fun _=>rfl) B x4 u En.Gu rfl
theorem yA:∀(w a:Nat),Wo (Tf w a)=a%256^w
 | 0,a=>by simp[Tf,Wo,Nat.mod_one]
 | w+1,a=>by
  rw[vf,yp,yA w a,Gn,Nat.mod_pow_succ]
theorem lr {w:Nat}{b:Int}(h0:0<=v)(hb:v<=b)(hw:b<(256^w:Nat)):((Wo (Tf w v.toNat):Nat):Int)=v:=by
 rw[yA,fN a_];omega
theorem uS {a b:List Nat}(h:a.length=n):(a++b).take n=a:=by subst h;simp
theorem yB {a b:List Nat}(h:a.length=n):(a++b).drop n=b:=by subst h;simp
theorem Bbd(w:f.Wf):jJ (Ls f)=true:=by
 have o:=oD w;have h2:=pF w;unfold jJ;rw[o];apply aR;unfold Ls;rw[uS h2,yB h2]
theorem A30(w:f.Wf)(o:hH f=true):lk (jT f)=f/\Wo (((jT f).drop 1).take 1)=1:=by
 simp only[hH,aX]at o;obtain⟨u,B,C,E,J⟩:=o;obtain⟨U,b1⟩:=Gd.1 u;obtain⟨L,b2⟩:=Gd.1 B;obtain⟨a3,b3⟩:=Gd.1 C;obtain⟨a4,b4⟩:=Gd.1 E;obtain⟨O,T⟩:=Gd.1 J;have W:=w.len;have t44:f.body.take 44=f.body:=bQ a_;unfold lk jT;simp only[bm,uS (Gn _ _),yB (Gn _ _),t44];rw[lr (w:=1) a_ b1 c_,lr (w:=2) L b2 c_,lr (w:=2) a3 b3 c_,lr (w:=4) a_ b4 c_,lr (w:=6) O T c_];exact⟨rfl,by rw[yA]⟩
theorem Bgd(w:f.Wf)(o:hH f=true):Um (Ls f)=(f,0):=by
 obtain⟨e1,e2⟩:=A30 w o;have h2:=pF w;have u:(Ls f).take 60=jT f:=by unfold Ls;exact uS h2
 unfold Um;rw[aH (by rw[Bbd w];simp),u,e1,aK ⟨e2,o⟩]
theorem z5(w:f.Wf)(o:hH f=true):hD (Ls f) f.Ai f.off=(f,0):=by
 unfold hD;rw[Bgd w o];simp
theorem A1r(w:e.Wf)(o:iT e=true):Z1 e.kind (Xt e)=e:=by
 obtain⟨⟨u,b1⟩,⟨B,b2⟩,⟨a3,b3⟩,⟨a4,b4⟩,⟨C,E⟩,_⟩:=yy o;have J:=w.len;have t32:e.bytes.take 32=e.bytes:=bQ a_;unfold Z1 Xt;simp only[bm,uS (Gn _ _),yB (Gn _ _),t32];rw[lr (w:=6) u b1 c_,lr (w:=1) a_ b4 c_,lr (w:=1) B b2 c_,lr (w:=2) C E c_,lr (w:=2) a3 b3 c_]
theorem Bfv(w:e.Wf)(o:iT e=true):hM e.kind (Xt e)=(e,0):=by
 unfold hM;rw[A1r w o];unfold Du;rw[aK o];simp
theorem vv(w:e.Wf){Ai off seq:Int}(h:(C8 e Ai off Ap seq).2=0):
 (C8 e Ai off Ap seq).1=⟨e.kind,Ai,off,Ap,seq,Xt e⟩/\hH ⟨e.kind,Ai,off,Ap,seq,Xt e⟩=true/\iT e=true/\Ux ⟨e.kind,Ai,off,Ap,seq,Xt e⟩=(e,0):=by
 by_cases o:iT e=true/\hH ⟨e.kind,Ai,off,Ap,seq,(Du e).1⟩=true/\e.first<=seq/\seq-e.count<e.first
 ·have hb:(Du e).1=Xt e:=by unfold Du;rw[aK o.1]
  have u:C8 e Ai off Ap seq=(⟨e.kind,Ai,off,Ap,seq,Xt e⟩,0):=by unfold C8;rw[aK o,hb]
  rw[hb]at o;refine⟨by rw[u],o.2.1,o.1,?_⟩;unfold Ux;simp only[Bfv w o.1,u];simp
 ·exfalso
  unfold C8 at h;rw[aH o]at h;exact absurd h c_
def Mn(g:Gm)(z off:Int):Bool:=rtB g&&(wi z 0 (g.D*g.Z-1)&&wi off 0 (g.S-1))
theorem vm {g:Gm}(hb:HB h)(z off:Int):Ok (Mp K (gV g) (I z) (I off) h) fun v h'=>v=.bool (Mn g z off)/\Ext h h':=by
 simp only[Mp,gV,Aa];obtain⟨W,X,C,L,_⟩:=nW h (.cells (gL g) 23);rw[X];have o:=C.hb hb;rw[Cz L rfl,Ak (show(gL g).length=6 from rfl)];simp only[G1];rw[show EV.agg (gL g)=gV g from rfl];refine(Z9 (K:=K) g W).Ao ?_;rintro _ h2 ⟨rfl,u⟩;have J:=u.hb o;have O:=u.at o L;unfold Mn;cases Y:rtB g with
 | false=>
  simp only[Aa,Ac,Pp,Pn,a8];exact .ret ⟨rfl,C.trans u⟩
 | true=>
  have s:=Qu Y;have:=s.d0;have:=s.d1;have:=s.z0;have:=s.z1;have:=s.s0;have:=s.s1;obtain⟨m0,m1⟩:=Nz (a:=g.D) (b:=g.Z) (A:=8) (B:=64);simp only[Aa,Ac,bG];rw[Cz O rfl,Ak (show(gL g).length=6 from rfl)];simp only[G1];rw[show EV.agg (gL g)=gV g from rfl,No s,Ar];have E:Ext h2 (h2.new (.cells (gL g) 23)):=As.new _ _;have T:=E.at J O;generalize h2.new (.cells (gL g) 23)=U at E T⊢;simp only[I,Ac];rw[Cn];have w1:=x_ (K:=K) z 0 (g.D*g.Z-1) U;simp only[I]at w1;rw[w1,Ar];cases wi z 0 (g.D*g.Z-1)with
  | false=>
   simp only[Aa,Ac,Pp,Pn,a8];exact .ret ⟨rfl,(C.trans u).trans E⟩
  | true=>
   simp only[Aa,Ac,Pp];rw[Cx T rfl,show(gL g)[2]? = some (I g.S)from rfl];simp only[G1,I,Ac];rw[Cn];have w2:=x_ (K:=K) off 0 (g.S-1) U;simp only[I]at w2;rw[w2,Ar];simp only[Pn,Aa,bG];exact .ret ⟨rfl,(C.trans u).trans E⟩
structure Me where
 state:Int
 Ai:Int
 Bj:Int
 off:Int
 seq:Int
 sum:Int
def Me.cells(m:Me):List EV:=[I m.state,I m.Ai,I m.Bj,I m.off,I m.seq,I m.sum]
def meB(g:Gm)(m:Me):Bool:=Mn g m.Ai m.off&&(Mn g m.Bj m.off&&(decide (¬Cl g m.Ai=Cl g m.Bj)&&(decide (1<=m.seq)&&(decide (m.seq<=281474976710655)&&(decide (0<=m.sum)&&decide (m.sum<=4294967295))))))
def Vp(z:Int):Prop:=-9223372036854775808<=z/\z<=9223372036854775807
theorem yK {g:Gm}{m:Me}(hb:HB h)(hs:m.state=1)(hz:Vp m.Ai)(hm:Vp m.Bj):Ok (I9 K (.agg m.cells) (gV g) h) fun v h'=>v=.bool (meB g m)/\Ext h h':=by
 simp only[I9,gV,Aa];have X:Ext h ((h.new (.cells m.cells 87)).new (.cells (gL g) 23)):=(As.new _ _).Dn _;have o:((h.new (.cells m.cells 87)).new (.cells (gL g) 23)).get h.next=some (.cells m.cells 87):=by
  rw[Ba _ (aT _)];exact Ad _ _
 have C:((h.new (.cells m.cells 87)).new (.cells (gL g) 23)).get (h.next+1)=some (.cells (gL g) 23):=Ad _ _;rw[show(h.new (.cells m.cells 87)).next=h.next+1 from rfl];generalize (h.new (.cells m.cells 87)).new (.cells (gL g) 23)=h1 at X o C⊢;have B:=X.hb hb;have l0:m.cells[0]? = some (I 1):=by rw[<-hs];rfl
 have l1:m.cells[1]? = some (I m.Ai):=rfl;have l2:m.cells[2]? = some (I m.Bj):=rfl;have l3:m.cells[3]? = some (I m.off):=rfl;have l4:m.cells[4]? = some (I m.seq):=rfl;have l5:m.cells[5]? = some (I m.sum):=rfl;have Y:(gL g).length=6:=rfl;have u:=B _ _ o;have J:=B _ _ C;rw[Cx o rfl,l0];simp only[G1,I,Ac];simp only[show ¬((1:Int)=0) from c_,show ¬((1:Int)=2) from c_,aA,Aa,Kt,Ac,aB];simp only[Aa,Cp J,Au,Cz C rfl,Ak Y,Cp u,Cx o rfl,l1,l3,G1];rw[show EV.agg (gL g)=gV g from rfl];refine Ok.bE (vm (K:=K) (Dj B) m.Ai m.off) (fun _ _ p=>p.2) ?_;rintro _ _ h2 ⟨rfl,_⟩ _ T;have L:=T.hb B;have o:=T.at B o;have C:=T.at B C;unfold meB;cases hh:Mn g m.Ai m.off with
 | false=>
  simp only[Aa,Ac,Kb,Ki,Ie,Ge,Fg,Ef,a8];exact .ret ⟨rfl,X.trans T⟩
 | true=>
 have ae:rtB g=true:=by unfold Mn at hh;exact((aX _ _).mp hh).1
 have sm:=Qu ae;simp only[Aa,Ac,Cp J,Au,Cz C rfl,Ak Y,Cp u,Cx o rfl,l2,l3,G1];rw[show EV.agg (gL g)=gV g from rfl];refine Ok.bE (vm (K:=K) (Dj L) m.Bj m.off) (fun _ _ p=>p.2) ?_;rintro _ _ h3 ⟨rfl,_⟩ _ x3;have O:=x3.hb L;have o:=x3.at L o;have C:=x3.at L C;have U:=(X.trans T).trans x3;simp only[bG];cases Mn g m.Bj m.off with
 | false=>
  simp only[Aa,Ac,Kb,Ki,Ie,Ge,Fg,Ef,a8];exact .ret ⟨rfl,U⟩
 | true=>
 simp only[Aa,Ac,Kb,Cp J,Au,Cz C rfl,Ak Y,Cp u,Cx o rfl,l1,G1,bG];rw[show EV.agg (gL g)=gV g from rfl];refine Ok.bE (Hv sm m.Ai hz _) (fun _ _ p=>p.2) ?_;rintro _ _ h4 ⟨rfl,_⟩ _ x4;have W:=x4.hb O;have o:=x4.at O o;have C:=x4.at O C;simp only[Aa,Ac,Cp J,Au,Cz C rfl,Ak Y,Cp u,Cx o rfl,l2,G1];rw[show EV.agg (gL g)=gV g from rfl];refine Ok.bE (Hv sm m.Bj hm _) (fun _ _ p=>p.2) ?_;rintro _ _ h5 ⟨rfl,_⟩ _ x5;have aq:=x5.hb W;have o:=x5.at W o;have E:=(U.trans x4).trans x5;simp only[Aa,Ac,I,Ki];cases decide (¬Cl g m.Ai=Cl g m.Bj)with
 | false=>
  simp only[Aa,Ac,Ie,Ge,Fg,Ef,a8];exact .ret ⟨rfl,E⟩
 | true=>
 simp only[Aa,Ac,Au,Cp u,Cx o rfl,l4,G1,I,bG,Ie];cases decide (1<=m.seq)with
 | false=>
  simp only[Aa,Ac,Ge,Fg,Ef,a8];exact .ret ⟨rfl,E⟩
 | true=>
 simp only[Aa,Ac,Au,Cp u,Cx o rfl,l4,G1,I,bG,Ge];cases decide (m.seq<=281474976710655)with
 | false=>
  simp only[Aa,Ac,Fg,Ef,a8];exact .ret ⟨rfl,E⟩
 | true=>
 simp only[Aa,Ac,Au,Cp u,Cx o rfl,l5,G1,I,bG,Fg];cases decide (0<=m.sum)with
 | false=>
  simp only[Aa,Ac,Ef,a8];exact .ret ⟨rfl,E⟩
 | true=>
 simp only[Aa,Ac,Au,Cp u,Cx o rfl,l5,G1,I,bG,Ef];exact .ret ⟨rfl,E⟩
structure Mi where
 g:Gm
 dr:Jp
 ps:Nat->List Int
 bad:Nat->Int
 a:Int
 b:Int
 u:Int
structure As5(h:Ab)(m D p bl ql np:Nat)(q c:Nat->Nat)(S:Mi)(G H:Nat->Prop):Prop where
 Hp:Ab2 h m D p bl (S.g.D*S.g.Z).toNat S.g S.a S.b S.u S.bad
 Ed:E3 h p ql np q c S.g S.ps
 psz:Sj np S.g S.ps
 drv:Fm h D S.dr G
 apart:¬G m/\¬G bl/\¬G p/\¬G ql/\∀d,d<np->¬G (q d)/\¬G (c d)
 sub:(∀i,G i->H i)/\H m/\H bl/\H p/\H ql/\∀d,d<np->H (q d)/\H (c d)
structure R7(h:Ab)(m:Nat)(S:Mi)(H:Nat->Prop):Prop where
 lt:∀i,H i->i<h.next
 Mh:∃D p bl ql np q c G,As5 h m D p bl ql np q c S G H
def Mi.It(S:Mi)(z:Int):Bool:=decide (0<=Cl S.g z)&&decide (S.bad z.toNat=1)
theorem N8{S:Mi}(s:R7 h m S H)(hb:HB h){z:Int}(C:Vp z):
 Ok (Et K (.ptr m 0) (I z) h) fun v h'=>v=.bool (S.It z)/\Ext h h':=by
 obtain⟨D,p,bl,ql,np,q,c,G,a⟩:=s.Mh;have sm:=a.psz.sm;simp only[Et,Aa,a.Hp.ov];refine(Hv sm z C h).Ao ?_;rintro _ E ⟨rfl,u⟩;have B:=a.Hp.ext fun i o g=>u.at hb g
 unfold Mi.It;simp only[I,Ac];rcases Z6 sm z with hd|⟨d0,d1,d2,d3,d4⟩
 ·rw[hd]
  simp only[show ¬((0:Int)<=-1) from c_,aA,Aa,Si,a8];exact .ret ⟨rfl,u⟩
 ·rw[aR d0]
  simp only[Aa,B.QS];obtain⟨j,rfl⟩:∃j:Nat,z=j:=⟨z.toNat,a_⟩;have hj:j<(S.g.D*S.g.Z).toNat:=a_
  rw[Lg hj,Cx B.Ax6 rfl];rw[show((List.range (S.g.D*S.g.Z).toNat).map fun z=>I (S.bad z))[0+j*1]? = some (I (S.bad j)) by rw[bJ,br,bB,cB hj];rfl];simp only[G1,I,Ac,Si,Aa,bG];exact .ret ⟨rfl,u⟩
variable {S:Mi}
section
section
variable{p:Nat}{q c:Nat->Nat}(a:As5 h m D p bl ql np q c S G H)(hb:HB h)
include a hb
theorem As5.lts:m<h.next/\bl<h.next/\p<h.next/\ql<h.next/\∀d,d<np->q d<h.next/\c d<h.next:=
 ⟨hb _ _ a.Hp.Hp,hb _ _ a.Hp.Ax6,hb _ _ a.Ed.Ed,hb _ _ a.Ed.row,fun d hd=>⟨hb _ _ (a.Ed.que d hd),hb _ _ (a.Ed.chan d hd)⟩⟩
theorem As5.yC {dr:Jp}(d:Fm h' D dr (Bi G h h'))(o:As G h h'):As5 h' m D p bl ql np q c { S with dr:=dr } (Bi G h h') (Bi H h h'):=by
 obtain⟨l1,O,T,U,C⟩:=a.lts hb;obtain⟨E,J,n3,n4,B⟩:=a.apart;have u:∀{i},¬G i->i<h.next->¬Bi G h h' i:=fun y l z=>by
  rcases z with z|z
  ·exact y z
  ·omega
 refine⟨⟨o.at hb a.Hp.Hp E,o.at hb a.Hp.Ax6 J⟩,?_,a.psz,d,⟨u E l1,u J O,u n3 T,u n4 U,fun d hd=>⟨u (B d hd).1 (C d hd).1,u (B d hd).2 (C d hd).2⟩⟩,?_⟩
 ·exact⟨a.Ed.pos,o.at hb a.Ed.Ed n3,o.at hb a.Ed.row n4,fun d hd=>o.at hb (a.Ed.que d hd) (B d hd).1,fun d hd=>o.at hb (a.Ed.chan d hd) (B d hd).2,a.Ed.inj⟩
 ·obtain⟨s1,s2,W,X,Y,L⟩:=a.sub
  refine⟨fun i hi=>?_,.inl s2,.inl W,.inl X,.inl Y,fun d hd=>⟨.inl (L d hd).1,.inl (L d hd).2⟩⟩;rcases hi with hi|hi
  ·exact .inl (s1 i hi)
  ·exact .inr hi
theorem As5.oG(P:E3 h' p ql np q c S.g ps)(Z:Sj np S.g ps)(o:As (mf np c) h h'):As5 h' m D p bl ql np q c { S with ps:=ps } G H/\As H h h':=by
 have u:∀i,G i->¬mf np c i:=by
  rintro i hi ⟨d,hd,rfl⟩;exact(a.apart.2.2.2.2 d hd).2 hi
 refine⟨⟨⟨o.at hb a.Hp.Hp (a.Ed.uL a.Hp.Hp trivial),o.at hb a.Hp.Ax6 (a.Ed.uL a.Hp.Ax6 trivial)⟩,P,Z,a.drv.chg o u,a.apart,a.sub⟩,o.mono ?_⟩;rintro i ⟨d,hd,rfl⟩;exact(a.sub.2.2.2.2.2 d hd).2
end
theorem R7.ext(s:R7 h m S H)(hb:HB h)(x:Ext h h'):R7 h' m S H:=by
 obtain⟨D,p,bl,ql,np,q,c,G,a⟩:=s.Mh;have g:∀i o,h.get i=some o->h'.get i=some o:=fun i o g=>x.at hb g
 exact⟨fun i hi=>aL (s.lt i hi) x.next,D,p,bl,ql,np,q,c,G,a.Hp.ext g,a.Ed.ext g,a.psz,a.drv.ext x,a.apart,a.sub⟩
end
theorem R7.mono{o:Nat->Prop}(s:R7 h m S H)(f:∀i,H i->o i)(l:∀i,o i->i<h.next):R7 h m S o:=by
 obtain⟨D,p,bl,ql,np,q,c,G,a⟩:=s.Mh;exact⟨l,D,p,bl,ql,np,q,c,G,a.Hp,a.Ed,a.psz,a.drv,a.apart,⟨fun i hi=>f _ (a.sub.1 i hi),f _ a.sub.2.1,f _ a.sub.2.2.1,f _ a.sub.2.2.2.1,f _ a.sub.2.2.2.2.1,fun d hd=>⟨f _ (a.sub.2.2.2.2.2 d hd).1,f _ (a.sub.2.2.2.2.2 d hd).2⟩⟩⟩
def Mi.leave(S:Mi)(z u:Int):Mi × Int:=
 if z = -1\/S.It z=true\/u=S.g.S then(S,0)else
 if u=0 then({ S with ps:=(iX S.g S.g.D.toNat S.ps z).2 },(iX S.g S.g.D.toNat S.ps z).1)else
 ({ S with dr:=(S.dr.finish z).1 },(S.dr.finish z).2)
theorem RT(A:Cf disp)(hK:10000<K)(hd:16<=d)(L:lu disp K S.dr)(s:R7 h m S H)(hb:HB h){z:Int}(X:Vp z)(u:Int):
 Ok (Ag TT disp K d false 184 [.ptr m 0,I z,I u] h) fun v h'=>v=I (S.leave z u).2/\R7 h' m (S.leave z u).1 (Bi H h h')/\As H h h'/\HB h':=by
 obtain⟨e,rfl⟩:=fc d;rw[Ajl A a_];have same:∀B,Ext h B->(z = -1\/S.It z=true\/u=S.g.S)->Ok (some (.int .i64 0,B)) fun v h'=>v=I (S.leave z u).2/\R7 h' m (S.leave z u).1 (Bi H h h')/\As H h h'/\HB h':=fun B x U=>by
  unfold Mi.leave;rw[aK U];obtain⟨_,D,p,bl,ql,np,q,c,G,a⟩:=s.ext hb x;refine .ret ⟨rfl,⟨Bi.lt s.lt x.next,D,p,bl,ql,np,q,c,G,⟨a.Hp,a.Ed,a.psz,a.drv,a.apart,⟨fun i hi=>.inl (a.sub.1 i hi),.inl a.sub.2.1,.inl a.sub.2.2.1,.inl a.sub.2.2.2.1,.inl a.sub.2.2.2.2.1,fun d hd=>⟨.inl (a.sub.2.2.2.2.2 d hd).1,.inl (a.sub.2.2.2.2.2 d hd).2⟩⟩⟩⟩,Ext.to x,x.hb hb⟩
 simp only[JN,I,Ac];by_cases B:z = -1
 ·rw[aR B]
  simp only[Aa,Ac,K7,Ht];exact same h (As.refl _) (.inl B)
 ·rw[aU B]
  simp only[Aa];refine(N8 (K:=K) s hb X).Ao ?_;rintro _ h2 ⟨rfl,C⟩;have o:=C.hb hb;have s2:=s.ext hb C;obtain⟨W,D,p,bl,ql,np,q,c,G,a⟩:=s2;have e1:Ec (.ptr m (1+2)) h2=fun k=>k (I S.g.S):=by
   funext k;rw[Cx a.Hp.Hp rfl];rfl
  cases O:S.It z with
  | true=>
   simp only[Aa,Ac,K7,Ht];exact same h2 C (.inr (.inl O))
  | false=>
   simp only[Aa,Ac,K7];rw[e1];simp only[I,Ac];by_cases hu:u=S.g.S
   ·rw[aR hu]
    simp only[Aa,Ac,Ht];exact same h2 C (.inr (.inr hu))
   ·rw[aU hu]
    have U:¬(z = -1\/S.It z=true\/u=S.g.S):=by
     rintro(y|y|y)
     ·exact B y
     ·rw[O]at y;cases y
     ·exact hu y
    unfold Mi.leave;rw[aH U];simp only[Aa,Ac,Ht];by_cases h0:u=0
    ·rw[aR h0,aK h0]
     simp only[Aa,a.Hp.Ed];refine(QX (K:=K) A a.Ed o a.psz a_ (d:=e) a_ z X).Ao ?_;rintro _ T ⟨c3,E,rfl,Y,Z3⟩;obtain⟨a3,cH⟩:=a.oG o Y Z3 c3;have J:As H h T:=(Ext.to C).trans cH;have hn:=a.psz.nd;subst hn;refine .ret ⟨rfl,R7.mono (H:=H) ⟨fun i hi=>aL (s.lt i hi) J.next,D,p,bl,ql,_,q,c,G,a3⟩ (fun _=>.inl) (Bi.lt s.lt J.next),J,E⟩
    ·rw[aU h0,aH h0]
     simp only[Aa,Yd,a.Hp.Da];refine(zH (K:=K) A (d:=e) a_ L a.drv o z).Ao ?_;rintro _ T ⟨rfl,d3,c3,E⟩;have a3:=a.yC o d3 c3;have cH:As H h2 T:=c3.mono a.sub.1;have J:As H h T:=(Ext.to C).trans cH;refine .ret ⟨rfl,R7.mono (H:=Bi H h2 T) ⟨Bi.lt W c3.next,D,p,bl,ql,np,q,c,_,a3⟩ (fun i hi=>?_) (Bi.lt s.lt J.next),J,E⟩;rcases hi with hi|hi
     ·exact .inl hi
     ·exact .inr ⟨bS C.next hi.1,hi.2⟩
theorem RU(D:Nat)(g:Gm)(p bl n:Nat)(a b u o B C:Int):(((Abr D g p bl n a b u).set 265 (I o)).set 266 (I B)).set 267 (I C)=Abr D g p bl n o B C:=by
 unfold Abr;have E:([EV.ptr D 0]++gL g++Bh).length=263:=by rw[aF,Nt];rfl
 rw[eO _ _ a_,E];show((([EV.ptr D 0]++gL g++Bh)++[EV.ptr p 0,.slice bl 0 n n false,I o,I b,I u]).set 266 (I B)).set 267 (I C)=_;rw[eO _ _ a_,E];show(([EV.ptr D 0]++gL g++Bh)++[EV.ptr p 0,.slice bl 0 n n false,I o,I B,I u]).set 267 (I C)=_;rw[eO _ _ a_,E];rfl
theorem As5.yD{p:Nat}{q c:Nat->Nat}(a:As5 h m D p bl ql np q c S G H)(hb:HB h){C E J:Int}(g:h'.get m=some (.cells (Abr D S.g p bl (S.g.D*S.g.Z).toNat C E J) 113))(L:As (fun i=>i=m) h h'):
 As5 h' m D p bl ql np q c { S with a:=C,b:=E,u:=J } G H:=by
 have e:=a.Hp.Hp;have k:∀i o,h.get i=some o->(∀l,o≠.cells l 113)->h'.get i=some o:=fun i o B O=>L.at hb B fun y=>by
  subst y;rw[e]at B;cases B;exact O _ rfl
 refine⟨⟨g,k _ _ a.Hp.Ax6 (by intros;simp)⟩,⟨a.Ed.pos,k _ _ a.Ed.Ed (by intros;simp),k _ _ a.Ed.row (by intros;simp),fun d hd=>k _ _ (a.Ed.que d hd) (by intros;simp),fun d hd=>k _ _ (a.Ed.chan d hd) (by intros;simp),a.Ed.inj⟩,a.psz,a.drv.chg L fun i hi y=>?_,a.apart,a.sub⟩;subst y;exact a.apart.1 hi
def uT(disp:Nat->Option FT)(K n:Nat):Prop:=∀T:Jp,T.ev.length<=n->lu disp K T
theorem RW:∀(l:List Jj) (D:Dv) (k:List Jj),(jj l D k).ev.length<=l.length
 | [],_,_=>aD _
 | e::r,D,k=>by
  unfold jj;split
  ·exact aD _
  ·have:=RW r (D.N3 e) (k++[e])
   exact Nat.le_succ_of_le this
theorem Jp.Bfa(S:Jp)(i:Int):(S.begin i).ev.length<=S.ev.length:=by
 unfold Jp.begin;split
 ·exact RW _ _ _
 ·exact aD _
theorem Mi.Be9(S:Mi)(z u:Int):(S.leave z u).1.dr.ev.length<=S.dr.ev.length:=by
 unfold Mi.leave;split
 ·exact aD _
 ·split
  ·exact aD _
  ·exact S.dr.Bfa z
def Mi.close(S:Mi):Mi × Int:=
 (((({ S with a:=-1,b:=-1,u:=0 }:Mi).leave S.a S.u).1.leave S.b S.u).1,if(({ S with a:=-1,b:=-1,u:=0 }:Mi).leave S.a S.u).2=0 then((({ S with a:=-1,b:=-1,u:=0 }:Mi).leave S.a S.u).1.leave S.b S.u).2 else(({ S with a:=-1,b:=-1,u:=0 }:Mi).leave S.a S.u).2)
theorem Ax4(A:Cf disp)(hK:10000<K)(hd:17<=d)(o:uT disp K n)(hn:S.dr.ev.length<=n)(s:R7 h m S H)(hb:HB h)(ha:Vp S.a)(L:Vp S.b):
 Ok (Ag TT disp K d false 143 [.ptr m 0] h) fun v h'=>v=I S.close.2/\R7 h' m S.close.1 (Bi H h h')/\As H h h'/\HB h':=by
 obtain⟨e,rfl⟩:=fc d;rw[Ajr A a_];obtain⟨lt,D,p,bl,ql,np,q,c,G,a⟩:=s;have ml:=yf D S.g p bl (S.g.D*S.g.Z).toNat S.a S.b S.u;simp only[HJ,Aa,a.Hp.oa,a.Hp.ob,a.Hp.ou];refine Ok.ky a.Hp.Hp hb rfl rfl a_ ?_;intro h1 g1 c1 O
 try simp only[Aa]
 refine Ok.ky g1 O rfl rfl (by rw[bM];omega) ?_;intro h2 g2 c2 T
 try simp only[Aa]
 refine Ok.ky g2 T rfl rfl (by rw[bM,bM];omega) ?_;intro h3 g3 c3 U;rw[show EV.int .i64 (-1)=I (-1)from rfl,show EV.int .i64 0=I 0 from rfl,RU]at g3;have C:=(c1.trans c2).trans c3;have a3:=a.yD hb g3 C;have cH:As H h h3:=C.mono fun i hi=>by subst hi;exact a.sub.2.1
 have s3:R7 h3 m { S with a:=-1,b:=-1,u:=0 } H:=⟨fun i hi=>aL (lt i hi) cH.next,D,p,bl,ql,np,q,c,G,a3⟩;unfold Mi.close;refine(RT (K:=K) (S:={ S with a:=-1,b:=-1,u:=0 }) A hK (d:=e) a_ (o S.dr hn) s3 U ha S.u).Ao ?_;have B:=Mi.Be9 { S with a:=-1,b:=-1,u:=0 } S.a S.u;generalize ({ S with a:=-1,b:=-1,u:=0 }:Mi).leave S.a S.u=r at B⊢;rintro _ h4 ⟨rfl,s4,c4,W⟩;refine(RT (K:=K) A hK (d:=e) a_ (o _ (bS B hn)) s4 W L S.u).Ao ?_;rintro _ X ⟨rfl,s5,c5,E⟩;have J:As H h h4:=cH.trans c4;have Y:As H h X:=J.then c5 fun i hi hl=>by
  rcases hi with y|y
  ·exact y
  ·have:=cH.next;omega
 have s6:R7 X m (r.1.leave S.b S.u).1 (Bi H h X):=s5.mono (fun i hi=>by
  rcases hi with(y|y)|y
  ·exact .inl y
  ·have:=cH.next;have:=c5.next;exact .inr ⟨a_,a_⟩
  ·have:=J.next;exact .inr ⟨a_,y.2⟩) (Bi.lt lt Y.next)
 simp only[I,Ac];by_cases h0:r.2=0
 ·rw[aR h0,aK h0]
  simp only[Aa,Pm];exact .ret ⟨rfl,s6,Y,E⟩
 ·rw[aU h0,aH h0]
  simp only[Aa,Pm];exact .ret ⟨rfl,s6,Y,E⟩
def Mi.dropped(S:Mi)(z:Int):Nat->List Int:=if Cl S.g z<0 then S.ps else upd S.ps (Cl S.g z).toNat (Te z (S.ps (Cl S.g z).toNat))
def Mi.mark(S:Mi)(z:Int):Mi:={ S with bad:=fun i=>if i=z.toNat then 1 else S.bad i,ps:=S.dropped z }
def Mi.Av(S:Mi)(z:Int):Mi × Int:=
 if Cl S.g z<0 then(S,13)else if S.It z=true then(S,16)else
 if ¬z=S.a/\¬z=S.b then(S.mark z,0)else((S.mark z).close.1,if(S.mark z).close.2=34 then 34 else 0)
theorem As5.Bp7{p:Nat}{q c:Nat->Nat}(a:As5 h m D p bl ql np q c S G H)(hb:HB h){u:Nat->Int}(g:h'.get bl=some (.cells ((List.range (S.g.D*S.g.Z).toNat).map fun z=>I (u z)) 3))(C:As (fun i=>i=bl) h h'):
 As5 h' m D p bl ql np q c { S with bad:=u } G H:=by
 have e:=a.Hp.Ax6;have k:∀i o,h.get i=some o->(∀l,o≠.cells l 3)->h'.get i=some o:=fun i o B E=>C.at hb B fun y=>by
  subst y;rw[e]at B;cases B;exact E _ rfl
 refine⟨⟨k _ _ a.Hp.Hp (by intros;simp),g⟩,⟨a.Ed.pos,k _ _ a.Ed.Ed (by intros;simp),k _ _ a.Ed.row (by intros;simp),fun d hd=>k _ _ (a.Ed.que d hd) (by intros;simp),fun d hd=>k _ _ (a.Ed.chan d hd) (by intros;simp),a.Ed.inj⟩,a.psz,a.drv.chg C fun i hi y=>?_,a.apart,a.sub⟩;subst y;exact a.apart.2.1 hi
theorem Bi.up{o h2:Ab}(a:h.next<=o.next)(b:o.next<=h2.next)(g:Bi H o h2 i):Bi H h h2 i:=by
 rcases g with y|y
 ·exact .inl y
 ·exact .inr ⟨a_,y.2⟩
theorem Ao2(A:Cf disp)(hK:10000<K)(hd:18<=d)(J:uT disp K n)(hn:S.dr.ev.length<=n)(s:R7 h m S H)(hb:HB h)(ha:Vp S.a)(aa:Vp S.b){z:Int}(hz:Vp z):
 Ok (Ag TT disp K d false 97 [.ptr m 0,I z] h) fun v h'=>v=I (S.Av z).2/\R7 h' m (S.Av z).1 (Bi H h h')/\As H h h'/\HB h':=by
 obtain⟨e,rfl⟩:=fc d;rw[Aci A a_];obtain⟨lt,D,p,bl,ql,np,q,c,G,a⟩:=s;have s:R7 h m S H:=⟨lt,D,p,bl,ql,np,q,c,G,a⟩;have sm:=a.psz.sm;simp only[Up,Aa,a.Hp.ov];refine(Hv sm z hz h).Ao ?_;rintro _ h1 ⟨rfl,L⟩;have o:=L.hb hb;have s1:=s.ext hb L;unfold Mi.Av;simp only[I,Ac];rcases Z6 sm z with ae|⟨d0,d1,d2,d3,d4⟩
 ·rw[ae]
  simp only[show(-1:Int)<0 from c_,aB,Aa,bN];exact .ret ⟨rfl,s1.mono (fun _=>.inl) (Bi.lt lt L.next),Ext.to L,o⟩
 ·rw[aU (show ¬Cl S.g z<0 from a_),aH (show ¬Cl S.g z<0 from a_)]
  simp only[Aa];refine(N8 (K:=K) s1 o hz).Ao ?_;rintro _ h2 ⟨rfl,Y⟩;have B:=Y.hb o;have C:=L.trans Y;cases au:S.It z with
  | true=>
   simp only[Aa,bN];exact .ret ⟨rfl,(s1.ext o Y).mono (fun _=>.inl) (Bi.lt lt C.next),Ext.to C,B⟩
  | false=>
   simp only[Aa,aV,ak,Rn];obtain⟨aw,D,p,bl,ql,np,q,c,G,a⟩:=s1.ext o Y;obtain⟨j,rfl⟩:∃j:Nat,z=j:=⟨z.toNat,a_⟩;have hj:j<(S.g.D*S.g.Z).toNat:=a_
   rw[a.Hp.QS,Lg hj,bJ,br];refine Ok.ky a.Hp.Ax6 B rfl rfl (by rw[bT,eQ];exact hj) ?_;intro h3 g3 c3 O;have T:((List.range (S.g.D*S.g.Z).toNat).map fun z=>I (S.bad z)).set j (.int .i64 1)=(List.range (S.g.D*S.g.Z).toNat).map fun z=>I ((S.mark j).bad z):=by
    apply dP;intro i;rw[cR,bB,bB,bT,eQ];by_cases hi:j=i
    ·subst hi
     rw[aK rfl,aK hj,cB hj];simp[Mi.mark,I]
    ·rw[aH hi]
     rcases dC i (S.g.D*S.g.Z).toNat with hl|hg
     ·rw[cB hl]
      have:¬i=j:=fun y=>hi y.symm
      simp[Mi.mark,this]
     ·rw[cD (by rw[eQ];exact hg)];rfl
   rw[T]at g3;have a3:=a.Bp7 B g3 c3;have af:As H h h3:=(Ext.to C).trans (c3.mono fun i hi=>by subst hi;exact a.sub.2.2.1)
   try simp only[Aa]
   rw[a3.Hp.Ed];refine(Boc (K:=K) A a_ a3.Ed O a3.psz (d:=e) a_ j hz).Ao ?_;rintro _ h4 ⟨⟨er,rfl⟩,c4,U,P4,Z4⟩;obtain⟨a4,cH⟩:=a3.oG O P4 Z4 c4;have a4:As5 h4 m D p bl ql np q c (S.mark j) G H:=a4;have W:As H h h4:=af.trans cH;have s4:R7 h4 m (S.mark j) H:=⟨fun i hi=>aL (lt i hi) W.next,D,p,bl,ql,np,q,c,G,a4⟩
   try simp only[Aa]
   rw[a4.Hp.oa];have close:¬(¬(j:Int)=S.a/\¬(j:Int)=S.b)->Ok (Ky (Ag TT disp K e false) (Ag TT disp K e true) K (.ptr m 0) h4) fun v h'=>v=I (if ¬(j:Int)=S.a/\¬(j:Int)=S.b then(S.mark j,(0:Int))else((S.mark j).close.1,if(S.mark j).close.2=34 then 34 else 0)).2/\R7 h' m (if ¬(j:Int)=S.a/\¬(j:Int)=S.b then(S.mark j,(0:Int))else((S.mark j).close.1,if(S.mark j).close.2=34 then 34 else 0)).1 (Bi H h h')/\As H h h'/\HB h':=by
    intro ag;rw[aH ag];simp only[Ky,dr];refine(Ax4 (K:=K) A hK (d:=e) a_ J (S:=S.mark j) hn s4 U ha aa).Ao ?_;rintro _ h5 ⟨rfl,s5,c5,X⟩;have E:=W.trans c5;have s6:=s5.mono (fun i hi=>Bi.up W.next c5.next hi) (Bi.lt lt E.next);simp only[I,Ac];by_cases u:(S.mark j).close.2=34
    ·rw[aR u,aK u]
     simp only[Aa];exact .ret ⟨rfl,s6,E,X⟩
    ·rw[aU u,aH u]
     simp only[Aa,Q9];exact .ret ⟨rfl,s6,E,X⟩
   simp only[I,Ac]at close⊢;rw[show(S.mark (j:Int)).a=S.a from rfl];by_cases e1:(j:Int)=S.a
   ·rw[show decide (¬(j:Int)=S.a)=false from aU fun y=>y e1]
    simp only[Aa,Ac,Kv];exact close fun y=>y.1 e1
   ·rw[show decide (¬(j:Int)=S.a)=true from aR e1]
    simp only[Aa,Ac];rw[a4.Hp.ob];simp only[I,Ac,Kv,Aa];rw[show(S.mark (j:Int)).b=S.b from rfl];by_cases e2:(j:Int)=S.b
    ·rw[show decide (¬(j:Int)=S.b)=false from aU fun y=>y e2]
     simp only[Aa];exact close fun y=>y.2 e2
    ·rw[show decide (¬(j:Int)=S.b)=true from aR e2]
     simp only[Aa];rw[aK ⟨e1,e2⟩];exact .ret ⟨rfl,s4.mono (fun _=>.inl) (Bi.lt lt W.next),W,U⟩
def kC(ps:Nat->List Int)(n:Nat):Option (Int × Int × (Nat->List Int)):=
 if Zv ps n=0 then none else
 some ((ps (Fl ps (-1) n).toNat).headD 0,(ps (Fl ps (Fl ps (-1) n) n).toNat).headD 0,
  upd (upd ps (Fl ps (-1) n).toNat (ps (Fl ps (-1) n).toNat).tail) (Fl ps (Fl ps (-1) n) n).toNat (ps (Fl ps (Fl ps (-1) n) n).toNat).tail)
def Mi.ready(S:Mi):Mi × Int:=
 if ¬S.a = -1/\S.u<S.g.S then(S,0)else
 if ¬S.dr.flush.2=0 then({ S with dr:=S.dr.flush.1 },S.dr.flush.2)else
 match kC S.ps S.g.D.toNat with
 | none=>({ S with dr:=S.dr.flush.1 },40)
 | some (x,y,o)=>({ S with dr:=S.dr.flush.1,ps:=o,a:=x,b:=y,u:=0 },0)
theorem Axt(A:Cf disp)(hK:10000<K)(hd:16<=d)(U:uT disp K n)(hn:S.dr.ev.length<=n)(s:R7 h m S H)(hb:HB h):
 Ok (Ag TT disp K d false 159 [.ptr m 0] h) fun v h'=>v=I S.ready.2/\R7 h' m S.ready.1 (Bi H h h')/\As H h h'/\HB h':=by
 obtain⟨e,rfl⟩:=fc d;rw[Akk A a_];obtain⟨lt,D,p,bl,ql,np,q,c,G,a⟩:=s;have s:R7 h m S H:=⟨lt,D,p,bl,ql,np,q,c,G,a⟩;have ae:=a.psz.nd;subst ae;have es:Ec (.ptr m (1+2)) h=fun k=>k (I S.g.S):=by
  funext k;rw[Cx a.Hp.Hp rfl];rfl
 have two:¬(¬S.a = -1/\S.u<S.g.S)->Ok (Pv (Ag TT disp K e false) (Ag TT disp K e true) K (.ptr m 0) h) fun v h'=>v=I S.ready.2/\R7 h' m S.ready.1 (Bi H h h')/\As H h h'/\HB h':=by
  intro af;unfold Mi.ready;rw[aH af];simp only[Pv,Aa,a.Hp.Da];refine(zI (K:=K) A a_ (d:=e) a_ (U _ hn) a.drv hb).Ao ?_;rintro _ h2 ⟨rfl,d2,c2,o⟩;have E:=a.yC hb d2 c2;have B:As H h h2:=c2.mono a.sub.1;have J:=Bi.lt lt B.next
  simp only[I,Ac];by_cases X:S.dr.flush.2=0
  ·rw[aU (show ¬¬S.dr.flush.2=0 from fun y=>y X),aH (show ¬¬S.dr.flush.2=0 from fun y=>y X)]
   simp only[Aa,Xm,E.Hp.Ed];refine(Boo (K:=K) E.Ed o E.psz a_).Ao ?_;rintro _ h3 ⟨c3,L,hh⟩;rcases hh with⟨p0,rfl,P3⟩|⟨x,y,vx,vy,r,t,hp,f1,f2,hx,hy,a5,e1,e2,rfl,P3,Z3⟩
   ·obtain⟨a3,O⟩:=E.oG o P3 E.psz c3
    have Y:As H h h3:=B.grow O;have hg:kC S.ps S.g.D.toNat=none:=by unfold kC;rw[aK p0]
    rw[hg];simp only[Aa,I,Ac];simp only[show ¬((15:Int)=0) from c_,aG,aB,Aa];refine .ret ⟨rfl,R7.mono (H:=Bi H h h2) ⟨fun i hi=>aL (J i hi) c3.next,D,p,bl,ql,_,q,c,_,a3⟩ (fun i hi=>Bi.le c3.next hi) (Bi.lt lt Y.next),Y,L⟩
   ·obtain⟨a3,O⟩:=E.oG o P3 Z3 c3
    have Y:As H h h3:=B.grow O;have hg:kC S.ps S.g.D.toNat=some (vx,vy,upd (upd S.ps x r) y t):=by
     unfold kC;have e1:S.ps x=vx::r:=e1;have e2:S.ps y=vy::t:=e2;have f1:Fl S.ps (-1) S.g.D.toNat=x:=f1;have f2:Fl S.ps x S.g.D.toNat=y:=f2;rw[aH hp,f1,f2];simp only[bF,e1,e2,List.headD_cons,List.tail_cons]
    rw[hg];simp only[Aa,I,Ac];simp only[aC,aA,Aa,W7];have ml:=yf D S.g p bl (S.g.D*S.g.Z).toNat S.a S.b S.u;refine Ok.ky a3.Hp.Hp L rfl rfl (by show 265<(Abr D S.g p bl (S.g.D*S.g.Z).toNat S.a S.b S.u).length;omega) ?_;intro h4 g4 c4 al
    try simp only[Aa]
    refine Ok.ky g4 al rfl rfl (by rw[bM];show 266<(Abr D S.g p bl (S.g.D*S.g.Z).toNat S.a S.b S.u).length;omega) ?_;intro h5 g5 c5 ao
    try simp only[Aa]
    refine Ok.ky g5 ao rfl rfl (by rw[bM,bM];show 267<(Abr D S.g p bl (S.g.D*S.g.Z).toNat S.a S.b S.u).length;omega) ?_;intro h6 g6 c6 aq;have g6:h6.get m=some (.cells ((((Abr D S.g p bl (S.g.D*S.g.Z).toNat S.a S.b S.u).set 265 (I vx)).set 266 (I vy)).set 267 (I 0)) 113):=g6;rw[RU]at g6;have C:=(c4.trans c5).trans c6;have a6:=a3.yD L g6 C;have W:As H h h6:=Y.then (C.mono (T:=fun i=>i=m) fun i hi=>hi) fun i hi _=>by subst hi;exact a.sub.2.1
    exact .ret ⟨rfl,R7.mono (H:=Bi H h h2) ⟨fun i hi=>aL (J i hi) (bS c3.next C.next),D,p,bl,ql,_,q,c,_,a6⟩ (fun i hi=>Bi.le (bS c3.next C.next) hi) (Bi.lt lt W.next),W,aq⟩
  ·rw[aR X,aK X]
   simp only[Aa];exact .ret ⟨rfl,⟨J,D,p,bl,ql,_,q,c,_,E⟩,B,o⟩
 have done:¬S.a = -1/\S.u<S.g.S->Ok (some (.int .i64 0,h)) fun v h'=>v=I S.ready.2/\R7 h' m S.ready.1 (Bi H h h')/\As H h h'/\HB h':=fun hy=>by
  unfold Mi.ready;rw[aK hy];exact .ret ⟨rfl,s.mono (fun _=>.inl) (Bi.lt lt (aD _)),As.refl _,hb⟩
 simp only[KG,Aa,a.Hp.oa,I,Ac];by_cases h1:S.a = -1
 ·rw[aU (show ¬¬S.a = -1 from fun y=>y h1)]
  simp only[Aa,K0,Ac];exact two fun y=>y.1 h1
 ·rw[aR h1]
  simp only[Aa,Ac,a.Hp.ou,es,I];by_cases h2:S.u<S.g.S
  ·rw[aR h2]
   simp only[K0,Aa];exact done ⟨h1,h2⟩
  ·rw[aU h2]
   simp only[K0,Aa];exact two fun y=>h2 y.2
theorem uU {x:List EV}(o:x.length=64)(u:y.length=64):(Sa x y).length=64:=by unfold Sa;rw[List.length_zipWith,o,u];rfl
theorem U8.at {x:List EV}(u:U8 x)(hi:i<x.length):∃a:Nat,a<256/\x[i]=.int .u8 (Int.ofNat a):=by
 obtain⟨l,o,rfl⟩:=u;rw[Az]at hi;exact⟨l[i],o _ (bA _),by simp[Be]⟩
theorem U8.xor {x:List EV}(o:U8 x)(u:U8 y):U8 (Sa x y):=by
 obtain⟨a,B,rfl⟩:=o;obtain⟨b,hb,rfl⟩:=u;refine⟨List.zipWith Nat.xor a b,fun c C=>?_,?_⟩
 ·obtain⟨i,hi,rfl⟩:=List.getElem_of_mem C
  rw[List.getElem_zipWith];rw[List.length_zipWith]at hi;exact cu (n:=8) (B _ (bA _)) (hb _ (bA _))
 ·unfold Sa Be
  rw[List.zipWith_map,List.map_zipWith];rfl
theorem Bhm{b2:Nat}{x:List EV}(hx:x.length=64)(hy:y.length=64)(ux:U8 x)(uy:U8 y)(l2:h0.next<=b2)(l3:b2<b3)(l4:b3<b4):∀(m i:Nat) (h:Ab) (l:List EV),64-i<m->i<=64->HB h->Ext h0 h ->
 h.get b2=some (.cells l 32)->l.length=64->(∀j,j<64->l[j]? = if j<i then(Sa x y)[j]? else x[j]?)->h.get b3=some (.cells y 32)->h.get b4=some (.cells Sf 32) ->
 Ok (Kh K m (.ptr b2 0) (.ptr b3 0) (.ptr b4 0) (.int .i64 (i:Int)) h) fun v h'=>v=.agg (Sa x y)/\Ext h0 h'/\HB h':=by
 intro m;induction m with
 | zero=>intro i h l hm;omega
 | succ m ih=>
  intro i h l hm hi hb c L u hj O T;have o:=hb _ _ L;have U:=hb _ _ O;have B:=hb _ _ T;simp only[Kh,Ac];by_cases C:i<64
  ·rw[aR (show(i:Int)<64 from a_)]
   obtain⟨a,ha,Y⟩:=ux.at (i:=i) a_;obtain⟨b,W,eb⟩:=uy.at (i:=i) a_;have e2:l[i]? = some (.int .u8 (Int.ofNat a)):=by rw[hj i C,aH (bX _),aE a_,Y]
   have e3:y[i]? = some (.int .u8 (Int.ofNat b)):=by rw[aE a_,eb]
   have ex:(Sa x y)[i]? = some (Nk .u8 (a ^^^ b)):=by
    unfold Sa;rw[List.getElem?_zipWith,aE (show i<x.length from a_),Y,e3];rfl
   simp only[Aa,HX,kB C,bJ,br];rw[Jg o,Al L rfl e2,Jg U,Al O rfl e3,RF ha W,J1];refine Ok.gK L rfl rfl a_ ?_;simp only[HW,Ac];rw[Cn];refine ih (i+1) _ (l.set i (Nk .u8 (a ^^^ b))) a_ a_ (hb.put o _) (c.Aq (.inr l2) o _) (Ae _ _ _) (by rw[bM];exact u) (fun j X=>?_) ?_ ?_
   ·rw[cR]
    by_cases E:i=j
    ·subst E;rw[aK rfl,aK a_,aK a_,ex]
    ·rw[aH E,hj j X]
     by_cases J:j<i
     ·rw[aK J,aK a_]
     ·rw[aH J,aH a_]
   ·rw[Af _];exact O
   ·rw[Af _];exact T
  ·have:i=64:=a_
   subst this;have el:l=Sa x y:=by
    refine dP fun j=>?_
    by_cases J:j<64
    ·rw[hj j J,aK J]
    ·rw[cD a_,cD (by rw[uU hx hy];omega)]
   subst el;simp only[show ¬((64:Nat):Int)<64 from a_,aA,Aa,HV];rw[Cz L rfl,Ak u];simp only[Aa];refine Ok.st (Sa x y) T rfl (by show Fp (Sa x y)=64;rw[Bb,u]) (Bn (by rw[Kg];exact u.symm)) ?_;rw[Wi (Ae _ _ _) kg.1 kg.2 u];exact .ret ⟨rfl,c.Aq (.inr a_) B _,hb.put B _⟩
theorem RX{x:List EV}(o:x.length=64)(B:y.length=64)(C:U8 x)(E:U8 y)(hb:HB h)(hK:100<K):
 Ok (Ov K (.agg x) (.agg y) h) fun v h'=>v=.agg (Sa x y)/\Ext h h'/\HB h':=by
 simp only[Ov,Aa];have u:Ext h (((h.new (.cells x 32)).new (.cells y 32)).new (.cells (List.replicate 64 (.int .u8 0)) 32)):=((As.new _ _).Dn _).Dn _;refine Bhm (h0:=h) (x:=x) (y:=y) o B C E (b2:=h.next) (b3:=h.next+1) (b4:=h.next+2) (aD _) a_ a_ K 0 _ x a_ a_ (u.hb hb) u ?_ o (fun j _=>by rw[aH (cJ _)]) ?_ (Ad _ _)
 ·rw[Ba _ (by show h.next<h.next+1+1;omega),Ba _ (by show h.next<h.next+1;omega)];exact Ad _ _
 ·rw[Ba _ (by show h.next+1<h.next+1+1;omega)];exact Ad _ _
theorem Bgo(A:Cf disp){e:Nat}(he:2<=e){x p:List EV}(U:h.get b=some (.cells p 32))(E:x.length=64)(J:p.length=64)(W:U8 x)(up:U8 p)(hb:HB h)(hK:100<K):
 Ok (T5 (Ag TT disp K e false) (Ag TT disp K e true) (.func 212 [] [.ptr b 0]) [.agg x] h) fun v h'=>v=.agg (Sa x p)/\Ext h h'/\HB h':=by
 obtain⟨d,rfl⟩:=fc e;show Ok (Ag TT disp K (d+1) false 212 [.agg x,.ptr b 0] h) _;rw[Akf A a_];simp only[HY,Aa];have C:Ext h ((h.new (.cells x 32)).new (.cells (List.replicate 64 (.int .u8 0)) 32)):=(As.new _ _).Dn _;have O:((h.new (.cells x 32)).new (.cells (List.replicate 64 (.int .u8 0)) 32)).get h.next=some (.cells x 32):=by
  rw[Ba _ (by show h.next<h.next+1;omega)];exact Ad _ _
 have u:((h.new (.cells x 32)).new (.cells (List.replicate 64 (.int .u8 0)) 32)).get (h.next+1)=some (.cells Sf 32):=Ad _ _;rw[show(h.new (.cells x 32)).next=h.next+1 from rfl];generalize (h.new (.cells x 32)).new (.cells (List.replicate 64 (.int .u8 0)) 32)=Y at C O u⊢;have B:=C.hb hb;have X:=C.at hb U;rw[Cz O rfl,Ak E];simp only[Aa];rw[Cz X rfl,Ak J];simp only[Aa];refine(RX (K:=K) E J W up B hK).Ao ?_;rintro _ h2 ⟨rfl,T,o⟩;have u:=T.at B u;have L:=uU E J;refine Ok.st (Sa x p) u rfl (by show Fp (Sa x p)=64;rw[Bb,L]) (Bn (by rw[Kg];exact L.symm)) ?_;rw[Wi (Ae _ _ _) kg.1 kg.2 L];exact .ret ⟨rfl,(C.trans T).Aq (.inr a_) (o _ _ u) _,o.put (o _ _ u) _⟩
theorem RY:∀(l vs:List EV),vs.length<=l.length->Jf l vs=some (vs++l.drop vs.length)
 | l,[],_=>by cases l<;>rfl
 | [],_::_,h=>by simp at h
 | a::l,v::vs,h=>by
  show(match Jf l vs with|some x=>some (v::x)|none=>none)=_;rw[RY l vs (by simpa using h)];rfl
theorem RZ:∀(l:List EV) (off:Nat) (vs:List EV),off+vs.length<=l.length->Fw l off vs=some (l.take off++vs++l.drop (off+vs.length))
 | [],off,vs,h=>by
  have h0:off=0/\vs = []:=by simp at h;exact⟨h.1,h.2⟩
  obtain⟨rfl,rfl⟩:=h0;rfl
 | a::l,0,vs,h=>by
  show Jf (a::l) vs=_;rw[RY _ _ a_];simp
 | a::l,off+1,vs,h=>by
  show(match Fw l off vs with|some x=>some (a::x)|none=>none)=_;rw[RZ l off vs (by simp at h;omega)];simp only[fS,List.cons_append];rw[show off+1+vs.length=(off+vs.length)+1 from a_,List.drop_succ_cons]
theorem rU {l vs:List EV}(h:off+vs.length<=l.length):Mf l off vs=some (l.take off++vs++l.drop (off+vs.length)):=by rw[Un,RZ _ _ _ h]
theorem Zo:∀(l:List (List EV)),(∀x∈l,x.length=n)->l.flatten.length=l.length*n
 | [],_=>by simp
 | a::l,hw=>by
  rw[b9,aF,Zo l fun x o=>hw x (aP _ o),hw a (aQ ..),bP,fQ];omega
theorem uA{l:List (List EV)}(hw:∀x∈l,x.length=n)(hj:j<l.length):l.flatten=(l.take j).flatten++l[j]++(l.drop (j+1)).flatten/\(l.take j).flatten.length=j*n/\l[j].length=n:=by
 refine⟨?_,?_,hw _ (bA _)⟩
 ·have:l=l.take j++l[j]::l.drop (j+1):=by rw[<-cm hj,eJ]
  conv=>lhs;rw[this]
  rw[cz,b9,bm]
 ·rw[Zo (n:=n) _ fun x o=>hw x (bI o),bK,dV a_]
theorem vW{l:List (List EV)}(hw:∀x∈l,x.length=n)(hj:j<l.length):Ly l.flatten (j*n) n=some l[j]:=by
 obtain⟨e,o,h2⟩:=uA hw hj;rw[e,Eg (by rw[aF,aF,o,h2];omega),<-o,bm,dD,<-h2,dM]
theorem u6{l:List (List EV)}(hw:∀x∈l,x.length=n)(hj:j<l.length){v:List EV}(u:v.length=n):Mf l.flatten (j*n) v=some (l.set j v).flatten:=by
 obtain⟨e,o,h2⟩:=uA hw hj;have e2:(l.set j v).flatten=(l.take j).flatten++v++(l.drop (j+1)).flatten:=by
  rw[List.set_eq_take_append_cons_drop,aK hj,cz,b9,bm]
 have B:l.flatten.length=j*n+n+(l.drop (j+1)).flatten.length:=by rw[e,aF,aF,o,h2]
 have t1:l.flatten.take (j*n)=(l.take j).flatten:=by rw[e,bm,<-o,dM]
 have t2:l.flatten.drop (j*n+n)=(l.drop (j+1)).flatten:=by
  rw[show j*n+n=((l.take j).flatten++l[j]).length by rw[aF,o,h2],e,dD]
 rw[rU (by rw[B,u];omega),u,t1,t2,e2]
def Zn.change(Z:Zn)(off:Int)(p:List EV):Zn:=if 0<=off/\off<Z.l.length then { Z with l:=Z.l.set off.toNat (Sa (((Z.l[off.toNat]?).getD Sf)) p) }else Z
theorem Zn.Wf.change{size:Nat}(w:Z.Wf size)(off:Int){p:List EV}(u:U8 p):(Z.change off p).Wf size:=by
 unfold Zn.change;split
 ·refine⟨fun x o=>?_,w.st,by simp only[bM];exact w.safe,by simp only[bM];exact w.len,by simp only[bM];exact w.room⟩
  rcases cj o with o|o
  ·exact w.u8 x o
  ·rw[o]
   refine U8.xor ?_ u;cases B:Z.l[off.toNat]? with
   | none=>exact U8.zs
   | some y=>exact w.u8 _ (dJ B)
 ·exact w
theorem Azt(A:Cf disp){e:Nat}(he:2<=e){z q size:Nat}(C:Fj h z q size Z)(w:Z.Wf size)(hs:size<=64)(hb:HB h)(off:Int){p:List EV}(hg:h.get b=some (.cells p 32))(X:p.length=64)(up:U8 p)(hK:100<K):
 Ok (Jt (Ag TT disp K e false) (Ag TT disp K e true) K (.ptr z 0) (I off) (.func 212 [] [.ptr b 0]) h) fun v h'=>v=I (if 0<=off/\off<Z.l.length then 0 else 31)/\Fj h' z q size (Z.change off p)/\As (fun j=>Z.l≠[]/\j=q) h h'/\HB h':=by
 obtain⟨s,g,r⟩:=C.Ai;have Y:=hb _ _ g;have no:¬(0<=off/\off<Z.l.length)->Ok (some (I 31,h)) fun v h'=>v=I (if 0<=off/\off<Z.l.length then 0 else 31)/\Fj h' z q size (Z.change off p)/\As (fun j=>Z.l≠[]/\j=q) h h'/\HB h':=fun hn=>by
  unfold Zn.change;rw[aH hn,aH hn];exact .ret ⟨rfl,C,As.refl _,hb⟩
 simp only[Jt,I,Ac];by_cases h0:off<0
 ·rw[aR h0]
  simp only[Aa,Ac,Fq];exact no fun y=>a_
 ·rw[aU h0]
  simp only[Aa,Ac,Cx g rfl,r.Gi];by_cases W:(Z.l.length:Int)<=off
  ·rw[aR W]
   simp only[Aa,Fq];exact no fun y=>a_
  ·rw[aU W]
   obtain⟨j,rfl⟩:∃j:Nat,off=j:=⟨off.toNat,a_⟩;have hj:j<Z.l.length:=a_
   have O:=r.block a_;have lq:=hb _ _ O;have u:(0:Int)<=(j:Int)/\(j:Int)<Z.l.length:=a_
   unfold Zn.change;rw[aK u,aK u,bF,aE hj,Option.getD_some];obtain⟨_,B⟩:=(uA C.wf hj).2;simp only[Aa,Fq,Mz,Au];rw[Jg Y,Cx g rfl];simp only[Aa,Au];rw[Jg Y,Cx g rfl];simp only[Aa,Au,r.ix hj];rw[Jg lq,Cu O rfl (vW C.wf hj)];simp only[Au];refine Ok.bE (Bgo (K:=K) A he (h:=h.lift) (by rw[Bx];exact hg) B X (w.u8 _ (bA _)) up (Dj hb) hK) (fun _ _ p=>p.2.1) ?_;rintro _ W h2 ⟨rfl,_,ae⟩ sm T;have E:=T.hb hb;have J:=T.at hb O;have U:=uU B X;rw[J1,FR (v:=.agg (Sa Z.l[j] p)) J rfl (by show Fp (Sa Z.l[j] p)=64;rw[Bb,U]) (u6 C.wf hj U)];have L:=E _ _ J;refine .ret ⟨rfl,⟨⟨s,?_,?_⟩,fun x o=>?_⟩,(Ext.to T).Aq (.inl ⟨fun y=>by rw[y]at hj;simp at hj,rfl⟩) L _,E.put L _⟩
   ·rw[Af _ (Bf O g (by simp))];exact T.at hb g
   ·refine .inr ⟨by rw[bM];omega,by rw[bM];exact r.slice a_,Ae _ _ _,?_⟩
    rw[Zo (n:=64),bM];intro x o;rcases cj o with o|o
    ·exact C.wf x o
    ·rw[o];exact U
   ·rcases cj o with o|o
    ·exact C.wf x o
    ·rw[o];exact U
theorem A4l(A:Cf disp)(hd:4<=d){D:Dv}(s:Hg h V D F)(hb:HB h)(hK:100<K)(z off:Int){p:List EV}(L:p.length=64)(up:U8 p):
 Ok (Ag TT disp K d false 198 [.ptr V 0,I z,I off,.agg p] h) fun v h'=>(∃n:Int,v=I n/\(n=0↔D.has z=true/\0<=off/\off<(D.zs z.toNat).l.length))/\Hg h' V (D.lE z off p) (Bi F h h')/\As F h h'/\HB h':=by
 obtain⟨e,rfl⟩:=fc d;rw[Am3 A a_];simp only[HU,Aa];have u:Ext h (h.new (.cells p 32)):=As.new _ _;have J:(h.new (.cells p 32)).get h.next=some (.cells p 32):=Ad _ _
 have o:HB (h.new (.cells p 32)):=hb.new _;have s1:=s.ext u;generalize h.new (.cells p 32)=U at u J o s1⊢;rw[uM s1];unfold Dv.lE;cases O:D.has z with
 | false=>
  simp only[Aa,aV,gI,ak];exact .ret ⟨⟨13,rfl,by simp⟩,s1.grow s.lt u.next,Ext.to u,o⟩
 | true=>
  have W:=cS O;obtain⟨j,rfl⟩:∃j:Nat,z=j:=⟨z.toNat,a_⟩;have hj:j<D.n:=a_
  obtain⟨w,wl,zl,X,q,a,b⟩:=s1;have w':=w.zs j hj;simp only[Aa,HT,a.list,a.rB hj,bF,gF];obtain⟨f,rfl⟩:=fc e;rw[Wl A a_];refine(Azt (K:=K) (e:=f) A a_ (a.Ai j hj) w' w.size o off J L up hK).Ao ?_;rintro _ h2 ⟨rfl,T,c2,B⟩;obtain⟨d3,C⟩:=Hg.Ai w a b wl o hj (w'.change off up) T (c2.mono fun _=>.inr) B (fun y=>.inr ⟨rfl,fun e=>y (by unfold Zn.change;split<;>simp[e])⟩);refine .ret ⟨⟨_,rfl,by split<;>simp_all⟩,?_,(Ext.to u).trans C,B⟩;have d4:Hg h2 V (D.set j ((D.zs j).change off p)) (Bi F h h2):=d3.mono (fun i hi=>by
   rcases hi with y|y
   ·exact .inl y
   ·exact .inr ⟨bS u.next y.1,y.2⟩) (Bi.lt s.lt (bS u.next C.next))
  unfold Zn.change at d4;split
  next E=>
   rw[aK E]at d4;exact d4
  next E=>
   rw[aH E]at d4;have e:D.set j (D.zs j)=D:=by
    unfold Dv.set;have:Ke D.zs j (D.zs j)=D.zs:=by funext i;unfold Ke;split<;>simp_all
    rw[this]
   rw[e]at d4;exact d4
theorem Jj.len {e:Jj}(w:e.Wf):e.cells.length=68:=by unfold Jj.cells;rw[aF,w.len];rfl
theorem Jj.R_ {e:Jj}(w:e.Wf):Ly e.cells 4 64=some e.pat:=by
 rw[Eg (by rw[Jj.len w];omega)];show some ((e.pat).take 64)=_;rw[bQ (by rw[w.len];omega)]
theorem Jj.one(e:Jj):e.cells[0]? = some (I e.Mh)/\e.cells[1]? = some (I e.kind)/\e.cells[2]? = some (I e.Ai)/\e.cells[3]? = some (I e.off):=⟨rfl,rfl,rfl,rfl⟩
theorem Fm.call {o h4:Ab}{M qc qh:Nat}{cs hs:EV}{S:Jp}{dv:Dv}(s:Fm h D S G)(a:Afu h D V M qc qh cs hs ms S F G)(hb:HB h)(d3:Hg o V dv (Bi F h.lift o))(sm:iO o h4)(c4:As F h h4):
 Fm h4 D { S with dv:=dv } (Bi G h h4)/\As G h h4/\Afu h4 D V M qc qh cs hs ms { S with dv:=dv } (Bi F h h4) (Bi G h h4):=by
 have d4:Hg h4 V dv (Bi F h h4):=by
  have:=d3.frame (h':=h4) (by rw[sm.next];exact aD _) fun j _=>sm.get j
  refine this.mono (fun j hj=>?_) (Bi.lt a.dev.lt c4.next);rcases hj with y|y
  ·exact .inl y
  ·exact .inr ⟨y.1,by rw[sm.next];exact y.2⟩
 have:=s.put a hb d4 c4;exact⟨this.1,this.2,a.put hb d4 c4⟩
theorem A4j(A:Cf disp)(hK:1000<K)(hd:6<=d){S:Jp}(s:Fm h D S G)(hb:HB h){e:Jj}(w:e.Wf):
 Ok (Ag TT disp K d false 169 [.ptr D 0,.agg e.cells] h) fun v h'=>Fm h' D { S with dv:=S.dv.lE e.Ai e.off e.pat } (Bi G h h')/\As G h h'/\HB h':=by
 obtain⟨dd,rfl⟩:=fc d;rw[Anp A a_];simp only[JJ,Aa];have x1:Ext h (h.new (.cells e.cells 34)):=As.new _ _;have C:(h.new (.cells e.cells 34)).get h.next=some (.cells e.cells 34):=Ad _ _
 have J:HB (h.new (.cells e.cells 34)):=hb.new _;have s1:=s.ext x1;have n1:(h.new (.cells e.cells 34)).next=h.next+1:=rfl
 generalize h.new (.cells e.cells 34)=h1 at x1 C J s1 n1⊢;have nx:¬G h.next:=fun y=>bX _ (s.lt _ y)
 obtain⟨V,M,qc,qh,cs,hs,ms,F,a⟩:=s1.Mh;have lD:=J _ _ a.Da;have l3:=J _ _ C;obtain⟨_,_,e2,e3⟩:=e.one;rw[Jg lD,Cx a.Da rfl]
 try simp only[Aa,Au]
 rw[Jg l3,Al C rfl e2]
 try simp only[Aa,Au]
 rw[Jg l3,Al C rfl e3]
 try simp only[Aa,Au]
 rw[Jg l3,Cu C rfl (Jj.R_ w)]
 try simp only[Aa,Au]
 refine Ok.bC (S:=F) (A4l (K:=K) A a_ a.dev.lift (Dj J) a_ e.Ai e.off w.len w.u8) (fun _ _ p=>p.2.2.1) ?_;rintro _ h3 h4 s' ⟨⟨n,rfl,_⟩,d3,_,aw⟩ sm c4 _;obtain⟨s4,ad,a4⟩:=s1.call a J d3 sm c4;have U:=sm.hb aw;have C:=ad.at J C nx;have fin:∀(u:Ab) (G5:Nat->Prop),Fm u D { S with dv:=S.dv.lE e.Ai e.off e.pat } G5->(∀i,G5 i->Bi G h u i)->As (Bi G h1 h4) h4 u->HB u->Ok (some (.tuple [],u)) fun v h'=>Fm h' D { S with dv:=S.dv.lE e.Ai e.off e.pat } (Bi G h h')/\As G h h'/\HB h':=fun u G5 s5 g5 c5 B=>by
  have cc:As G h u:=((Ext.to x1).trans ad).then c5 fun j hj hl=>by
   rcases hj with y|y
   ·exact y
   ·omega
  exact .ret ⟨s5.mono g5 (Bi.lt s.lt cc.next),cc,B⟩
 have gr:∀u:Ab,h4.next<=u.next->∀i,Bi G h1 h4 i->Bi G h u i:=fun u l i hi=>by
  rcases hi with y|y
  ·exact .inl y
  ·exact .inr ⟨a_,a_⟩
 simp only[Ac,I];by_cases hn:n=0
 ·subst hn
  simp only[aC,aA,Aa,JI];rw[Al C rfl e2]
  try simp only[Aa]
  rw[Al C rfl e3];rw[Ax (l:=[I e.Ai,I e.off]) rfl]
  try simp only[Aa]
  have L:Ext h4 (h4.new (.cells [I 0,I 0] 239)):=As.new _ _;have ca:(h4.new (.cells [I 0,I 0] 239)).get h4.next=some (.cells [I 0,I 0] 239):=Ad _ _
  refine Ok.st [I e.Ai,I e.off] (o:=0) (l:=[I 0,I 0]) (Ad _ _) rfl rfl rfl ?_;have L:Ext h4 ((h4.new (.cells [I 0,I 0] 239)).put h4.next (.cells [I e.Ai,I e.off] 239)):=(As.new h4 _:Ext _ _).Aq (.inr (aD _)) (aT _) _;have T:((h4.new (.cells [I 0,I 0] 239)).put h4.next (.cells [I e.Ai,I e.off] 239)).get h4.next=some (.cells [I e.Ai,I e.off] 239):=Ae _ _ _
  have n5:((h4.new (.cells [I 0,I 0] 239)).put h4.next (.cells [I e.Ai,I e.off] 239)).next=h4.next+1:=rfl
  simp only[I]at L T n5⊢;generalize (h4.new (.cells [EV.int .i64 0,.int .i64 0] 239)).put h4.next (.cells [.int .i64 e.Ai,.int .i64 e.off] 239)=u at L T n5⊢
  have B:=L.hb U;have s5:=s4.ext L;have C:=L.at U C;have a5:=a4.frame L.next fun i hi=>L.get i (s4.lt i hi) id
  have az:=B _ _ a5.Da;have a1:=B _ _ T;have cb:=B _ _ C;rw[Jg az,Cx a5.Da rfl]
  try simp only[Aa,Au]
  rw[Jg a1,Cu T rfl (Ak (n:=2) rfl)]
  try simp only[Aa,Au]
  obtain⟨p,k,el,up,lp⟩:=Bhj (h:=u.lift) (by rw[Bx];exact a5.map) a5.marks e.Ai e.off;simp only[kp,I]at el;rw[mi el]
  try simp only[Aa,Au]
  have O:Ext u ((u.new (.cells (List.replicate 64 (EV.int .u8 0)++[EV.int .i64 0]) 254)).put u.next (.cells (p++[I k]) 254)):=(As.new u _:Ext _ _).Aq (.inr (aD _)) (aT _) _;have Y:((u.new (.cells (List.replicate 64 (EV.int .u8 0)++[EV.int .i64 0]) 254)).put u.next (.cells (p++[I k]) 254)).get u.next=some (.cells (p++[I k]) 254):=Ae _ _ _
  rw[J1];refine Ok.st (p++[I k]) (Ad _ _) rfl (by show Fp (p++[I k])=65;rw[Bb,aF,lp];rfl) (Bn (by rw[aF,bO];show _=(p++[I k]).length;rw[aF,lp];rfl)) ?_;generalize (u.new (.cells (List.replicate 64 (EV.int .u8 0)++[EV.int .i64 0]) 254)).put u.next (.cells (p++[I k]) 254)=h6 at O Y⊢
  have E:=O.hb B;have s6:=s5.ext O;have C:=O.at B C;have T:=O.at B T;have a6:=a5.frame O.next fun i hi=>O.get i (s5.lt i hi) id
  have ba:=E _ _ a6.Da;have bb:=E _ _ T;have bf:=E _ _ C;have af:=E _ _ Y
  try simp only[Aa,Au]
  rw[Jg ba,Cx a6.Da rfl]
  try simp only[Aa,Au]
  rw[Jg bb,Cu T rfl (Ak (n:=2) rfl)]
  try simp only[Aa,Au]
  rw[Jg af,Cu Y rfl (l':=p) (by rw[Eg (by rw[aF,lp];show 0+64<=64+1;omega),cZ,<-lp,dM])]
  try simp only[Aa,Au]
  rw[Jg bf,Cu C rfl (Jj.R_ w)]
  try simp only[Aa,Au]
  refine Ok.bE (RX (K:=K) lp w.len up w.u8 (Dj E) a_) (fun _ _ p=>p.2.1) ?_;rintro _ cf h7 ⟨rfl,_,_⟩ ch W;have X:=W.hb E;have s7:=s6.ext W;have a7:=a6.frame W.next fun i hi=>W.get i (s6.lt i hi) id
  have Y:=W.at E Y
  try simp only[Aa,Au]
  rw[Jg af,Al Y rfl (v:=I k) (by rw[bU a_,lp];rfl)];simp only[Aa,Au,I,Ac];have xl:=uU lp w.len;rw[Ax (l:=Sa p e.pat++[I (Cr .i64 (k+1))]) (by
   show iU (D1 [(0,64),(64,1)]) [(0,.agg (Sa p e.pat)),(1,.int .i64 (Cr .i64 (k+1)))] (List.replicate 64 (.int .u8 0)++[.int .i64 0])=_;have e1:Mf (List.replicate 64 (EV.int .u8 0)++[EV.int .i64 0]) 0 (Sa p e.pat)=some (Sa p e.pat++[EV.int .i64 0]):=by
    rw[rU (by rw[aF,xl,bO];show 0+64<=64+1;omega),xl];rfl
   have e2:Mf (Sa p e.pat++[EV.int .i64 0]) 64 [EV.int .i64 (Cr .i64 (k+1))]=some (Sa p e.pat++[I (Cr .i64 (k+1))]):=by
    rw[rU (by rw[aF,xl];show 64+1<=64+1;omega),<-xl,dM,cr (by rw[aF];exact aD _),cT]
   show Bc (Nat.beq (Fp (Sa p e.pat)) 64) (oB (fun z=>iU (D1 [(0,64),(64,1)]) [(1,.int .i64 (Cr .i64 (k+1)))] z) (Mf (List.replicate 64 (EV.int .u8 0)++[EV.int .i64 0]) 0 (Sa p e.pat))) none=_;rw[Bb,xl,cO,Aj,e1];show oB (fun z=>some z) (Mf (Sa p e.pat++[EV.int .i64 0]) 64 [EV.int .i64 (Cr .i64 (k+1))])=_;rw[e2];rfl)]
  obtain⟨ah,eu,bj⟩:=A5j (h:=h7.lift) (M:=M) (ms:=ms) (by rw[Bx];exact a7.map) a7.marks e.Ai e.off (p:=Sa p e.pat) (n:=Cr .i64 (k+1)) (up.xor w.u8) xl;simp only[kp,I]at eu;have lM:=X _ _ a7.map;refine Ok.bC (S:=fun i=>i=M) (P:=fun v h'=>v=.tuple []/\h'=h7.lift.put M (.map ah)) ⟨_,_,eu,rfl,rfl⟩ (fun _ _ p=>by rw[p.2];exact(As.refl (S:=fun i=>i=M) _).Aq (.inl rfl) (h:=h7.lift) lM _) ?_;rintro _ _ h9 ct ⟨rfl,rfl⟩ aj c9 _;obtain⟨s8,c8,cx⟩:=s7.rD a7 X bj;have e9:∀i,h9.get i=(h7.put M (.map ah)).get i:=fun i=>by
   rw[aj.get,Ab.get_put,Ab.get_put,Bx]
  have n9:h9.next=h7.next:=aj.next
  have s9:=s8.frame (h':=h9) (by rw[n9];exact aD _) fun i _=>e9 i
  refine fin h9 _ s9 (gr h9 (by have:=L.next;have:=O.next;have:=W.next;omega)) ?_ (c9.hb X);refine((Ext.to L).trans ((Ext.to O).trans (Ext.to W))).then c9 fun i hi _=>?_
  subst hi;exact a4.sub.2.2.1
 ·simp only[hn,aG,aB,Aa]
  exact fin h4 _ s4 (gr h4 (aD _)) (As.refl _) U
theorem Afu.own{M qc qh o u:Nat}{cs hs B C:EV}{S:Jp}(a:Afu h D V M qc qh cs hs ms S F G)(hb:HB h){Le:List Jj}
 (g:h'.get D=some (.cells [.ptr V 0,B,C,.map M] 118)) (rc:Ce h' B o 34 68 ev.length (ev.map Jj.cells).flatten) (O:Ce h' C u 34 68 Le.length (Le.map Jj.cells).flatten)
 (n:h.next<=h'.next) (k:∀i,i<h.next->i≠D->(0<S.ev.length->i≠qc)->(0<S.Le.length->i≠qh)->h'.get i=h.get i) (sz:∀i,G i->i<h.next)
 (J:0<ev.length->h.next<=o/\o<h'.next\/o=qc/\0<S.ev.length) (L:0<Le.length->h.next<=u/\u<h'.next\/u=qh/\0<S.Le.length) (ne:0<ev.length->0<Le.length->o≠u) :
 Afu h' D V M o u B C ms ⟨S.dv,ev,Le⟩ F (Bi G h h'):=by
 obtain⟨b1,b2,b3,b4,T⟩:=a.sub;obtain⟨c1,c2,c3,c4,X⟩:=a.apart;have U:=hb _ _ a.map;have W:h'.get M=h.get M:=k _ U (Bf a.map a.Da (by simp)) (fun y=>Bf a.map (a.Gh.block y) (by simp)) (fun y=>Bf a.map (a.Apc.block y) (by simp));refine⟨g,by rw[W];exact a.map,a.marks,rc,O,a.dev.frame n fun i hi=>k i (sz i (b1 i hi)) (fun y=>c1 (y▸hi)) (fun y z=>c3 y (z▸hi)) (fun y z=>c4 y (z▸hi)),⟨fun i hi=>.inl (b1 i hi),.inl b2,.inl b3,fun y=>?_,fun y=>?_⟩,⟨c1,c2,fun y z=>?_,fun y z=>?_,ne⟩⟩
 ·rcases J y with z|⟨z,z'⟩
  ·exact .inr z
  ·rw[z];exact .inl (b4 z')
 ·rcases L y with z|⟨z,z'⟩
  ·exact .inr z
  ·rw[z];exact .inl (T z')
 ·rcases J y with x|⟨x,E⟩
  ·have:=sz _ (b1 _ z);omega
  ·rw[x]at z;exact c3 E z
 ·rcases L y with x|⟨x,E⟩
  ·have:=sz _ (b1 _ z);omega
  ·rw[x]at z;exact c4 E z
theorem Bek(A:Cf disp)(hK:1000<K)(hd:7<=d){S:Jp}(s:Fm h D S G)(hb:HB h){e:Jj}(w:e.Wf)(hn:S.ev.length+S.Le.length<200):
 Ok (Ag TT disp K d false 133 [.ptr D 0,.agg e.cells] h) fun v h'=>Fm h' D { S with dv:=S.dv.N3 e,Le:=S.Le++[e] } (Bi G h h')/\As G h h'/\HB h':=by
 obtain⟨dd,rfl⟩:=fc d;rw[Amv A a_];simp only[KA,Aa];have x1:Ext h (h.new (.cells e.cells 34)):=As.new _ _;have B:(h.new (.cells e.cells 34)).get h.next=some (.cells e.cells 34):=Ad _ _
 have O:HB (h.new (.cells e.cells 34)):=hb.new _;have s1:=s.ext x1;have n1:(h.new (.cells e.cells 34)).next=h.next+1:=rfl
 generalize h.new (.cells e.cells 34)=h1 at x1 B O s1 n1⊢;have nx:¬G h.next:=fun y=>bX _ (s.lt _ y)
 obtain⟨V,M,qc,qh,cs,hs,ms,F,a⟩:=s1.Mh;have lD:=O _ _ a.Da;have l3:=O _ _ B;have el:=Jj.len w;rw[Jg lD,Cx a.Da rfl]
 try simp only[Aa,Au]
 rw[Jg l3,Cu B rfl (Ak el)]
 try simp only[Aa,Au]
 rw[Vt (v:=.agg e.cells) (z:=List.replicate 4 (EV.int .i64 0)++List.replicate 64 (EV.int .u8 0)) rfl (by simp) el,Ar];obtain⟨h2,e_,Y,gx,n2⟩:=nW h1 (.cells (EV.cells (.agg e.cells)) 34);rw[e_];have C:=Y.hb O;have B:=Y.at O B;have s2:=s1.ext Y;have J:=a.frame Y.next fun i hi=>Y.get i (s1.lt i hi) id
 have r2:Ce h2.lift hs qh 34 68 S.Le.length (S.Le.map Jj.cells).flatten:=J.Apc.frame fun _=>Bx _ _
 obtain⟨h3,e3,r3,n3,c3⟩:=Zd (x:=.slice h1.next 0 1 1 false) (n:=1) r2 rfl a_ a_ a_ (Xb (b:=h1.next) (by rw[Bx];exact gx) el) (by rw[el]);refine Ok.bC (S:=fun i=>0<S.Le.length/\i=qh) (P:=fun v h'=>v=.slice h2.lift.next 0 (S.Le.length+1) (S.Le.length+1) true/\h'=h3) ⟨_,_,e3,rfl,rfl⟩ (fun _ _ p=>by rw[p.2];exact c3) ?_;rintro _ _ h4 s' ⟨rfl,rfl⟩ sm x4 bj;have X:=x4.hb C;rw[qu]at r3 n3;rw[qu];have bk:¬(0<S.Le.length/\D=qh):=fun y=>Bf J.Da (J.Apc.block y.1) (by simp) y.2
 have gD:h4.get D=some (.cells [.ptr V 0,cs,hs,.map M] 118):=As.at x4 C J.Da bk;have r4:Ce h4 (.slice h2.next 0 (S.Le.length+1) (S.Le.length+1) true) h2.next 34 68 (S.Le.length+1) ((S.Le.map Jj.cells).flatten++e.cells):=r3.frame fun _=>sm.get _
 have B:h4.get h.next=some (.cells e.cells 34):=As.at x4 C B fun y=>by
  have:=J.Apc.block y.1;exact Bf B this (by simp) y.2
 have aa:=X _ _ gD
 try simp only[Aa]
 rw[J1 (by rcases bj with rfl|⟨w,rfl,_⟩<;>kernel_rfl)];refine Ok.gK gD rfl rfl (by show 2<4;decide) ?_;simp only[List.set];have bn:=X _ _ B;have ao:h2.next<h4.next:=by
  have:=r4.block a_;exact X _ _ this
 have T:(h4.put D (.cells [EV.ptr V 0,cs,.slice h2.next 0 (S.Le.length+1) (S.Le.length+1) true,.map M] 118)).get D=some (.cells [EV.ptr V 0,cs,.slice h2.next 0 (S.Le.length+1) (S.Le.length+1) true,.map M] 118):=Ae _ _ _;have k5:∀i,i≠D->(h4.put D (.cells [EV.ptr V 0,cs,.slice h2.next 0 (S.Le.length+1) (S.Le.length+1) true,.map M] 118)).get i=h4.get i:=fun i hi=>Af _ (cX hi)
 have n5:(h4.put D (.cells [EV.ptr V 0,cs,.slice h2.next 0 (S.Le.length+1) (S.Le.length+1) true,.map M] 118)).next=h4.next:=rfl
 have E:HB (h4.put D (.cells [EV.ptr V 0,cs,.slice h2.next 0 (S.Le.length+1) (S.Le.length+1) true,.map M] 118)):=X.put aa _;have c5:As (Bi G h1 h2) h2 (h4.put D (.cells [EV.ptr V 0,cs,.slice h2.next 0 (S.Le.length+1) (S.Le.length+1) true,.map M] 118)):=(x4.mono (fun i hi=>.inl (by rw[hi.2];exact J.sub.2.2.2.2 hi.1))).Aq (.inl (.inl a.sub.2.1)) aa _;generalize h4.put D (.cells [EV.ptr V 0,cs,.slice h2.next 0 (S.Le.length+1) (S.Le.length+1) true,.map M] 118)=o at T k5 n5 E c5⊢;have au:h.next≠D:=fun y=>nx (y▸a.sub.2.1)
 have B:o.get h.next=some (.cells e.cells 34):=by rw[k5 _ au];exact B
 have aw:D<o.next:=by rw[n5];exact aa
 have ax:h.next<o.next:=by rw[n5];exact bn
 have a5:Afu o D V M qc h2.next cs (.slice h2.next 0 (S.Le.length+1) (S.Le.length+1) true) ms ⟨S.dv,S.ev,S.Le++[e]⟩ F (Bi G h2 o):=by
  refine J.own C T ?_ ?_ c5.next (fun i hi h1 _ h3=>?_) s2.lt (fun y=>.inr ⟨rfl,y⟩) (fun _=>.inl ⟨aD _,by rw[n5];exact ao⟩) (fun y _=>?_)
  ·refine J.Gh.frame fun y=>?_
   have gc:=J.Gh.block y;rw[k5 _ (Bf gc J.Da (by simp)),As.at x4 C gc fun z=>J.apart.2.2.2.2 y z.1 z.2,gc]
  ·rw[aF,cI,cz]
   show Ce o _ _ 34 68 (S.Le.length+1) ((S.Le.map Jj.cells).flatten++(e.cells++[]));rw[cT];exact r4.frame fun _=>k5 _ (by have:=C _ _ J.Da;omega)
  ·rw[k5 i h1]
   exact x4.get i hi fun y=>h3 y.1 y.2
  ·have:=C _ _ (J.Gh.block y);omega
 have bo:∀i,Bi G h2 o i->i<o.next:=Bi.lt s2.lt c5.next
 have s5:Fm o D ⟨S.dv,S.ev,S.Le++[e]⟩ (Bi G h2 o):=by
  refine⟨bo,⟨by rw[aF];show S.ev.length+(S.Le.length+1)<=200;omega,s.wf.wf,fun x hx=>?_⟩,V,M,qc,_,cs,_,ms,F,a5⟩;rcases bH.1 hx with hx|hx
  ·exact s.wf.hwf x hx
  ·rw[aN.1 hx];exact w
 have a1:As G h o:=((Ext.to x1).trans (Ext.to Y)).then c5 fun j hj hl=>by
  rcases hj with y|y
  ·exact y
  ·omega
 have cG:∀u,o.next<=u.next->As (Bi G h2 o) o u->As G h u:=fun u l c=>a1.then c fun j hj hl=>by
  rcases hj with y|y
  ·exact y
  ·have:=x1.next;have:=Y.next;omega
 have fin:∀(u:Ab) (dv:Dv),Fm u D ⟨dv,S.ev,S.Le++[e]⟩ (Bi (Bi G h2 o) o u)->As (Bi G h2 o) o u->HB u->dv=S.dv.N3 e->Ok (some (.tuple [],u)) fun v h'=>Fm h' D ⟨S.dv.N3 e,S.ev,S.Le++[e]⟩ (Bi G h h')/\As G h h'/\HB h':=fun u dv s9 L U he=>by
  subst he;refine .ret ⟨s9.mono (fun i hi=>?_) (Bi.lt s.lt (cG u L.next L).next),cG u L.next L,U⟩;rcases hi with(y|y)|y
  ·exact .inl y
  ·have:=x1.next;have:=Y.next;have:=L.next;exact .inr ⟨a_,a_⟩
  ·exact .inr ⟨by have:=a1.next;omega,y.2⟩
 obtain⟨_,e1,e2,_⟩:=e.one;rw[Al B rfl e1];simp only[Ac,I];have W:∀st:Nat,S.dv.fail e.Ai st=S.dv.N3 e ->
  Ok (Mc 6 63 (((DX.ld ⟨0,[],[],[],[]⟩ 3 D).ld 5 h.next)) o (fun h=>Ow K (.ptr V 0) (I e.Ai) (I st) h) fun _ h s=>some (.tuple [],h)) fun v h'=>Fm h' D ⟨S.dv.N3 e,S.ev,S.Le++[e]⟩ (Bi G h h')/\As G h h'/\HB h':=by
  intro st bp;refine Ok.bC (S:=F) (A7y (K:=K) a5.dev.lift (Dj E) e.Ai st) (fun _ _ p=>p.2.1) ?_;rintro _ h6 u s' ⟨d6,_,bt⟩ sm L _;obtain⟨s9,ae,_⟩:=s5.call a5 E d6 sm L;exact fin u _ s9 ae (sm.hb bt) bp
 by_cases k1:e.kind=1
 ·simp only[k1,aB,Aa]
  rw[Cu B rfl (Ak el)];refine(A4j (K:=K) A hK a_ s5 E w).Ao ?_;rintro _ u ⟨s9,L,U⟩;exact fin u _ s9 L U (by unfold Dv.N3;rw[aK k1])
 ·simp only[k1,aA,Aa]
  by_cases k2:e.kind=2
  ·simp only[k2,aB,Aa,Au]
   rw[Jg aw,Cx T rfl]
   try simp only[Aa,Au]
   rw[Jg ax,Al B rfl e2];exact W 3 (by unfold Dv.N3;rw[aH k1,aK k2])
  ·simp only[k2,aA,Aa]
   by_cases k3:e.kind=3
   ·simp only[k3,aB,Aa,Au]
    rw[Jg aw,Cx T rfl]
    try simp only[Aa,Au]
    rw[Jg ax,Al B rfl e2];exact W 4 (by unfold Dv.N3;rw[aH k1,aH k2,aK k3])
   ·simp only[k3,aA,Aa]
    by_cases k4:e.kind=4
    ·simp only[k4,aB,Aa,Cx T rfl]
     refine(A4i (K:=K) a5.dev E).Ao ?_;rintro _ u ⟨d9,L,U⟩;obtain⟨s9,ae⟩:=s5.put a5 E (d9.grow a5.dev.lt L.next) L;exact fin u _ s9 ae U (by unfold Dv.N3;rw[aH k1,aH k2,aH k3,aK k4])
    ·simp only[k4,aA,Aa]
     exact fin o S.dv (s5.grow s5.lt (aD _)) (As.refl _) E (by unfold Dv.N3;rw[aH k1,aH k2,aH k3,aH k4])
theorem Bff(q o n r:Nat)(op:Bool)(k:EV->R):K1 iH (bin TT .eql 115) (.slice q o n r op) .Am k=k (.bool false):=by kernel_rfl
theorem Baz(q o z:Nat)(k:EV->R):K1 iH (bin TT .eql 115) (.tail q o z) .Am k=k (.bool false):=by kernel_rfl
theorem A4z{q:Nat}{e:Jj}(w:∀x∈e::ev,x.Wf)(T:ev.length<=65000)(C:h.get q=some (.vec ((e::ev).map Jj.cells).flatten 34 68))(hb:HB h){kk:EV->Ab->R}
 (hk:∀v h' q',Ce h' v q' 34 68 ev.length (ev.map Jj.cells).flatten->Ext h h'->(0<ev.length->h.next<=q')->Ok (kk v h') Q) :
 Ok (h_ 68 (.slice q 0 (e::ev).length (e::ev).length true) (some (.int .i64 1)) none none fun v=>Ao (Dp K v h) kk) Q:=by
 have o:Ext h (h.new (.cells [] 34)):=As.new _ _;have B:Bv (List.replicate 4 (.int .i64 0)++List.replicate 64 (.int .u8 0)) 34 68 0 [] h=some (.slice h.next 0 0 0 false,h.new (.cells [] 34)):=rfl;have wl:∀x∈ev.map Jj.cells,x.length=68:=fun x E=>by
  obtain⟨y,J,rfl⟩:=cN.1 E;exact Jj.len (w y (aP _ J))
 have fl:(ev.map Jj.cells).flatten.length=ev.length*68:=by rw[Zo _ wl,bT]
 rcases dW ev.length with h0|U
 ·have:ev = []:=bc.1 h0
  subst this;have e1:∀k:EV->R,h_ 68 (.slice q 0 [e].length [e].length true) (some (.int .i64 1)) none none k=k (.tail q 68 0):=fun k=>rfl
  rw[e1];simp only[Dp,Baz,Aa,F1];rw[B,Ar];have:D9 34 68 (.slice h.next 0 0 0 false) (.tail q 68 0) (h.new (.cells [] 34))=some (.slice h.next 0 0 0 false,h.new (.cells [] 34)):=by unfold D9;rfl
  rw[this,Ar]
  try simp only[Aa]
  exact hk _ _ 0 (.empty _ _ _ _ _) o fun y=>absurd y (bX _)
 ·obtain⟨m,hm⟩:∃m,ev.length=m+1:=⟨ev.length-1,a_⟩
  have e1:∀k:EV->R,h_ 68 (.slice q 0 (e::ev).length (e::ev).length true) (some (.int .i64 1)) none none k=k (.slice q 68 ev.length ev.length true):=fun k=>by
   rw[bP,hm];rfl
  rw[e1];simp only[Dp,Bff,Aa,F1];rw[B,Ar];have L:Lm (h.new (.cells [] 34)) 68 ev.length (.slice q 68 ev.length ev.length true)=some (ev.map Jj.cells).flatten:=by
   show Bc (Nat.beq ev.length 0) (some []) (Uw _ q 68 (Nat.mul ev.length 68))=_;rw[show Nat.beq ev.length 0=false by rw[hm];rfl,Bo];unfold Uw lS;rw[o.at hb C];have el:=Jj.len (w e (aQ ..));show Ly (e.cells++(ev.map Jj.cells).flatten) 68 (ev.length*68)=_;rw[Eg (by rw[aF,el,fl];exact aD _),<-el,dD,bQ (by rw[fl,el];exact aD _)]
  have ap:=Tm (h:=h.new (.cells [] 34)) (b:=h.next) (e:=34) (x:=.slice q 68 ev.length ev.length true) rfl a_ L fl 0;rw[show ∀(x:R) (k u:EV->Ab->R),Ao (Ao x k) u=Ao x fun v h=>Ao (k v h) u from fun x k u=>by cases x<;>rfl];refine ap.Ao ?_;rintro v h2 ⟨q',r,O,l⟩;rw[Ar];exact hk v h2 q' r (o.trans O) fun y=>by have:=l y;have:=o.next;omega
theorem Bh9(A:Cf disp)(hK:1000<K)(hd:9<=d):∀(m:Nat) (S:Jp) (h:Ab) (G:Nat->Prop),S.ev.length<m->Fm h D S G->HB h ->
 Ok (Jx (Ag TT disp K d false) (Ag TT disp K d true) K m (.ptr D 0) h) fun v h'=>Fm h' D S.due (Bi G h h')/\As G h h'/\HB h':=by
 intro m;induction m with
 | zero=>intro S h G hm;omega
 | succ m ih=>
  intro S h G hm s hb;obtain⟨V,M,qc,qh,cs,hs,ms,F,a⟩:=s.Mh;obtain⟨zl,z,q,b,_⟩:=a.dev.Mh;have lD:=hb _ _ a.Da;have lV:=hb _ _ b.dev;have stay:S.due=S->Ok (some (.tuple [],h)) fun(_:EV) h'=>Fm h' D S.due (Bi G h h')/\As G h h'/\HB h':=fun y=>by
   rw[y];exact .ret ⟨s.grow s.lt (aD _),As.refl _,hb⟩
  simp only[Jx,Aa,Au,Cp lD,Cx a.Da rfl];have U:Tj K (.ptr V 0) h.lift=some (.bool S.dv.down,h.lift):=by
   simp only[Tj,Aa,Cx b.lift.dev rfl]
  rw[mi U];obtain⟨dv,ev,Le⟩:=S;simp only at a U b hm⊢;cases W:dv.down with
  | true=>
   simp only[Aa,Ac,Au,Nb,J4];refine stay ?_;unfold Jp.due;cases ev with
   | nil=>rfl
   | cons e r=>unfold jj;rw[aK (.inl W)]
  | false=>
   simp only[Aa,Ac,Au];rw[Jg lD,Cx a.Da rfl];simp only[Aa,a.Gh.Gi,Ac];cases ev with
   | nil=>
    simp only[fF,Nb,J4,Aa,Ac];exact stay rfl
   | cons e r=>
    have we:=s.wf.wf e (aQ ..);have el:=Jj.len we;have gq:=a.Gh.block (Nat.succ_pos _);have lq:=hb _ _ gq;have c0:Ly (((e::r).map Jj.cells).flatten) 0 68=some e.cells:=by
     show Ly (e.cells++_) 0 68=_;rw[Eg (by rw[aF,el];omega),cZ,<-el,dM]
    have al:(((e::r).map Jj.cells).flatten)[0]? = some (I e.Mh):=rfl;rw[aR (show(0:Int)<((e::r).length:Int) by rw[bP];omega)];simp only[Nb,Aa,Ac,Au];rw[Jg lD,Cx a.Da rfl]
    try simp only[Aa,Au]
    rw[show ∀k:EV->R,Wn 68 cs (.int .i64 0) k=k (.ptr qc (0*68))from fun k=>a.Gh.ix (Nat.succ_pos _) .i64 k]
    try simp only[Aa,Au]
    rw[Jg lq,Al gq rfl al]
    try simp only[Aa,Au]
    rw[Jg lD,Cx a.Da rfl]
    try simp only[Aa,Au]
    have ao:Rz K (.ptr V 0) h.lift=some (I dv.cnt,h.lift):=by
     simp only[Rz,Aa,Cx b.lift.dev rfl]
    rw[mi ao];simp only[I,Ac];by_cases C:e.Mh<=dv.cnt
    ·rw[aR C]
     simp only[J4,Aa,IX,Cx a.Da rfl];rw[show ∀k:EV->R,Wn 68 cs (.int .i64 0) k=k (.ptr qc (0*68))from fun k=>a.Gh.ix (Nat.succ_pos _) .i64 k];rw[Cu gq rfl c0]
     try simp only[Aa]
     have aq:(List.replicate 4 (EV.int .i64 0)++List.replicate 64 (EV.int .u8 0)).length=68:=by simp
     refine Ok.st e.cells (Ad _ _) rfl (by show Fp e.cells=68;rw[Bb,el]) (Bn (by rw[aq];exact el.symm)) ?_;obtain⟨J,e_,T,g2,_⟩:=nP h (.cells (List.replicate 4 (EV.int .i64 0)++List.replicate 64 (EV.int .u8 0)) 34) (.cells e.cells 34);rw[e_];have o:=T.hb hb;have s1:=s.ext T;have u:=a.frame T.next fun i hi=>T.get i (s.lt i hi) id
     have aw:=u.Gh.block (Nat.succ_pos _);have ax:=u.Gh.slice (Nat.succ_pos _);subst ax;simp only[Aa,Cx u.Da rfl];have ay:=s.wf.ev;refine A4z (K:=K) s.wf.wf (by simp only[bP]at ay;omega) aw o ?_;intro v h2 q' r2 B L;have O:=B.hb o;have s2:=s1.ext B;have a2:=u.frame B.next fun i hi=>B.get i (s1.lt i hi) id
     have g2:=B.at o g2
     try simp only[Aa]
     have X:=O _ _ a2.Da;refine Ok.gK a2.Da r2.plain.1 r2.plain.2 (by show 1<4;decide) ?_;simp only[List.set];have Y:(h2.put D (.cells [EV.ptr V 0,v,hs,.map M] 118)).get D=some (.cells [EV.ptr V 0,v,hs,.map M] 118):=Ae _ _ _;have k3:∀i,i≠D->(h2.put D (.cells [EV.ptr V 0,v,hs,.map M] 118)).get i=h2.get i:=fun i hi=>Af _ (cX hi)
     have aa:HB (h2.put D (.cells [EV.ptr V 0,v,hs,.map M] 118)):=O.put X _;have c3:As G h2 (h2.put D (.cells [EV.ptr V 0,v,hs,.map M] 118)):=(As.refl h2).Aq (.inl a.sub.2.1) X _;have n3:(h2.put D (.cells [EV.ptr V 0,v,hs,.map M] 118)).next=h2.next:=rfl
     generalize h2.put D (.cells [EV.ptr V 0,v,hs,.map M] 118)=E at Y k3 aa c3 n3⊢;have nD:h.next≠D:=a_
     have g3:E.get h.next=some (.cells e.cells 34):=by rw[k3 _ nD];exact g2
     have rb:0<r.length->q'<h2.next:=fun y=>O _ _ (r2.block y)
     have a3:Afu E D V M q' qh v hs ms ⟨dv,r,Le⟩ F (Bi G J E):=by
      have az:J.next<=E.next:=by rw[n3];exact B.next
      have ad:∀i,i<J.next->i≠D->E.get i=J.get i:=fun i hi a5=>by rw[k3 i a5,B.get i hi id]
      refine u.own o Y (r2.frame fun y=>k3 _ (by have:=L y;have:=o _ _ u.Da;omega)) (u.Apc.frame fun y=>ad _ (o _ _ (u.Apc.block y)) (Bf (u.Apc.block y) u.Da (by simp))) az (fun i hi J _ _=>ad i hi J) s1.lt
       (fun y=>.inl ⟨L y,by rw[n3];exact rb y⟩) (fun y=>.inr ⟨rfl,y⟩) fun y z=>?_
      have:=L y;have:=o _ _ (u.Apc.block z);omega
     have a6:As G h E:=((Ext.to T).trans (Ext.to B)).trans c3;have s3:Fm E D ⟨dv,r,Le⟩ (Bi G J E):=by
      refine⟨Bi.lt s1.lt (by rw[n3];exact B.next),⟨?_,fun x hx=>s.wf.wf x (aP _ hx),s.wf.hwf⟩,V,M,q',qh,v,hs,ms,F,a3⟩;have:=s.wf.ev;simp only[bP]at this⊢;omega
     rw[Cu g3 rfl (Ak el)];refine(Bek (K:=K) A hK a_ s3 aa we (by have:=s.wf.ev;simp only[bP]at this⊢;omega)).Ao ?_;rintro _ h4 ⟨s4,c4,a7⟩;have ae:(Jp.mk dv (e::r) Le).due=(Jp.mk (dv.N3 e) r (Le++[e])).due:=by
      unfold Jp.due
      conv=>lhs;unfold jj
      rw[aH (by rw[W];rintro(y|y);exact absurd y (by simp);exact y C)]
     rw[ae];refine(ih ⟨dv.N3 e,r,Le++[e]⟩ h4 _ (by simp only[bP]at hm⊢;omega) s4 a7).mono ?_;rintro _ h5 ⟨s5,c5,ba⟩;have t1:=T.next
     have t2:=B.next
     have t4:=c4.next
     have t5:=c5.next
     have bb:As G h h4:=a6.then c4 fun j hj hl=>by
      rcases hj with y|y
      ·exact y
      ·omega
     have af:As G h h5:=bb.then c5 fun j hj hl=>by
      rcases hj with(y|y)|y
      ·exact y
      ·omega
      ·omega
     refine⟨s5.mono (fun i hi=>?_) (Bi.lt s.lt af.next),af,ba⟩;rcases hi with((y|y)|y)|y
     ·exact .inl y
     ·exact .inr ⟨a_,a_⟩
     ·exact .inr ⟨a_,a_⟩
     ·exact .inr ⟨a_,y.2⟩
    ·rw[aU C]
     simp only[J4,Aa];refine stay ?_;unfold Jp.due jj;rw[aK (.inr C)]
theorem sa(A:Cf disp)(hK:1000<K)(S:Jp):∀d,12<=d->RD disp K d S:=by
 intro d hd h D G s hb;obtain⟨e,rfl⟩:=fc d;rw[As4 A a_];exact Bh9 (K:=K) A hK a_ K S h G (by have:=s.wf.ev;omega) s hb
section
def Out(F:Nat->Prop)(h:Ab):Nat->Prop:=fun i=>i<h.next/\¬F i
abbrev Kf(F:Nat->Prop):Ab->Ab->Prop:=As fun i=>¬F i
theorem As.kf(c:As (Out F h) h h'):Kf F h h':=c.mono fun _ y=>y.2
theorem Ext.kf(c:Ext h h'):Kf F h h':=Ext.to c
theorem Kf.less(c:Kf F h h')(s:∀i,F' i->F i):Kf F' h h':=c.mono fun i y z=>y (s i z)
theorem Kf.at(c:Kf F h h')(hb:HB h){o:Ds}(g:h.get i=some o)(u:F i):h'.get i=some o:=As.at c hb g fun y=>y u
theorem Ext.nq{o h2:Ab}(x:Ext h o)(c:Kf (Bi F h o) o h2):Kf F h h2:=by
 refine(Ext.to (S:=fun i=>¬F i) x).then c fun i y u z=>y (.inl z)
theorem R7.frame(s:R7 h m S H)(n:h.next<=h'.next)(e:∀i,H i->h'.get i=h.get i):R7 h' m S H:=by
 obtain⟨lt,D,p,bl,ql,np,q,c,G,a⟩:=s;obtain⟨t1,t2,t3,t4,t5,t6⟩:=a.sub;have k:∀i o,h.get i=some o->H i->h'.get i=some o:=fun i o g hi=>by rw[e i hi];exact g
 exact⟨fun i hi=>aL (lt i hi) n,D,p,bl,ql,np,q,c,G,⟨k _ _ a.Hp.Hp t2,k _ _ a.Hp.Ax6 t3⟩,
  ⟨a.Ed.pos,k _ _ a.Ed.Ed t4,k _ _ a.Ed.row t5,fun d hd=>k _ _ (a.Ed.que d hd) (t6 d hd).1,fun d hd=>k _ _ (a.Ed.chan d hd) (t6 d hd).2,a.Ed.inj⟩,
  a.psz,a.drv.frame n fun i hi=>e i (t1 i hi),a.apart,a.sub⟩
structure Mi.Wp(S:Mi):Prop where
 sm:Sm S.g
 ps:∀d,d<S.g.D.toNat->∀x∈S.ps d,Cl S.g x=d/\¬S.bad x.toNat=1
structure Mi.Wf(S:Mi):Prop extends S.Wp where
 op:(S.a = -1/\S.b = -1)\/((0<=Cl S.g S.a/\¬S.bad S.a.toNat=1)/\(0<=Cl S.g S.b/\¬S.bad S.b.toNat=1))
theorem oI {g:Gm}(s:Sm g){z:Int}(h:0<=Cl g z:=by omega):Vp z:=by
 have o:=s.d1;have h2:=s.z1;have u:=s.d0;have h4:=s.z0;rcases Z6 s z with y|⟨_,_,_,C,E⟩
 ·omega
 ·obtain⟨J,L⟩:=Nz (a:=g.D) (b:=g.Z) (A:=8) (B:=64)
  exact⟨a_,a_⟩
theorem lI {g:Gm}(s:Sm g){z:Int}(h:0<=Cl g z:=by omega):0<=z:=by
 rcases Z6 s z with y|⟨_,_,_,o,u⟩<;>omega
theorem Mi.Wf.rng(w:S.Wf):Vp S.a/\Vp S.b:=by
 rcases w.op with⟨o,h2⟩|⟨o,h2⟩
 ·rw[o,h2];exact⟨⟨a_,a_⟩,⟨a_,a_⟩⟩
 ·exact⟨oI w.sm o.1,oI w.sm h2.1⟩
theorem vt {g:Gm}(w:∀d,d<g.D.toNat->∀x∈ps d,Cl g x=d/\P x)(n:Nat)(z:Int)(u:0<=Cl g z->P z):∀d,d<g.D.toNat->∀x∈(iX g n ps z).2 d,Cl g x=d/\P x:=by
 intro d hd x o;unfold iX at o;split at o
 ·exact w d hd x o
 next h0=>
  split at o
  ·exact w d hd x o
  ·split at o
   ·simp only[upd]at o
    split at o
    next e=>
     subst e;rcases bH.1 o with o|o
     ·exact w _ hd x o
     ·rw[aN.1 o];exact⟨a_,u a_⟩
    ·exact w d hd x o
   ·exact w d hd x o
theorem sf(S:Mi)(z u:Int):(S.leave z u).1.g=S.g/\(S.leave z u).1.a=S.a/\(S.leave z u).1.b=S.b/\(S.leave z u).1.u=S.u/\(S.leave z u).1.bad=S.bad:=by
 unfold Mi.leave;split
 ·exact⟨rfl,rfl,rfl,rfl,rfl⟩
 ·split<;>exact⟨rfl,rfl,rfl,rfl,rfl⟩
theorem Mi.Wp.leave(w:S.Wp)(z u:Int):(S.leave z u).1.Wp:=by
 unfold Mi.leave;split
 ·exact w
 next h0=>
  split
  ·refine⟨w.sm,vt w.ps _ _ fun o y=>h0 (.inr (.inl ?_))⟩
   unfold Mi.It;rw[aR o,aR y];rfl
  ·exact⟨w.sm,w.ps⟩
theorem sr(S:Mi):S.close.1.g=S.g/\S.close.1.a = -1/\S.close.1.b = -1/\S.close.1.u=0/\S.close.1.bad=S.bad:=by
 unfold Mi.close;obtain⟨o,B,a3,a4,C⟩:=sf { S with a:=-1,b:=-1,u:=0 } S.a S.u;obtain⟨b1,b2,b3,b4,E⟩:=sf (({ S with a:=-1,b:=-1,u:=0 }:Mi).leave S.a S.u).1 S.b S.u;exact⟨b1.trans o,b2.trans B,b3.trans a3,b4.trans a4,E.trans C⟩
theorem Mi.Wp.close(w:S.Wp):S.close.1.Wf:=by
 have:({ S with a:=-1,b:=-1,u:=0 }:Mi).Wp:=⟨w.sm,w.ps⟩;obtain⟨B,o,a3,a4,C⟩:=sr S;exact { toWp:=(this.leave _ _).leave _ _,op:=.inl ⟨o,a3⟩ }
theorem Mi.Wp.mark(w:S.Wp){z:Int}(C:0<=Cl S.g z):(S.mark z).Wp:=by
 refine⟨w.sm,fun d hd x o=>?_⟩;have o:x∈S.dropped z d:=o;unfold Mi.dropped at o;rw[aH a_]at o;have key:∀x,Cl S.g x=d/\¬S.bad x.toNat=1->¬x=z->Cl S.g x=d/\¬(S.mark z).bad x.toNat=1:=fun x o E=>by
  refine⟨o.1,?_⟩;show ¬(if x.toNat=z.toNat then(1:Int)else S.bad x.toNat)=1;have u:=lI w.sm C;have h2:=lI w.sm (z:=x) (by rw[o.1];omega);rw[aH a_];exact o.2
 simp only[upd]at o;split at o
 next e=>
  have h2:=(dS.1 o).2;have u:=w.ps d hd x (by rw[e];exact(dS.1 o).1);exact key x u (cS h2)
 next B=>
  have u:=w.ps d hd x o;refine key x u fun y=>B ?_
  subst y;omega
theorem Mi.Wf.Av(w:S.Wf)(z:Int):(S.Av z).1.Wf:=by
 unfold Mi.Av;split
 ·exact w
 next o=>
  have o:0<=Cl S.g z:=a_
  split
  ·exact w
  ·split
   next u=>
    refine { toWp:=w.toWp.mark o,op:=?_ };rcases w.op with y|⟨C,E⟩
    ·exact .inl y
    ·have key:∀x,(0<=Cl S.g x/\¬S.bad x.toNat=1)->¬z=x->0<=Cl S.g x/\¬(S.mark z).bad x.toNat=1:=fun x B u=>by
      refine⟨B.1,?_⟩;show ¬(if x.toNat=z.toNat then(1:Int)else S.bad x.toNat)=1;have J:=lI w.sm o;have h2:=lI w.sm B.1;rw[aH a_];exact B.2
     exact .inr ⟨key _ C u.1,key _ E u.2⟩
   ·exact(w.toWp.mark o).close
theorem vu {g:Gm}{u:Nat->List Int}{x y:Int}(w:∀d,d<g.D.toNat->∀x∈ps d,Cl g x=d/\P x)(h:kC ps g.D.toNat=some (x,y,u)):
 ∃a b:Nat,a<g.D.toNat/\b<g.D.toNat/\a≠b/\ps a=x::u a/\ps b=y::u b/\(∀d,d≠a->d≠b->u d=ps d)/\Fl ps (-1) g.D.toNat=a/\Fl ps a g.D.toNat=b/\(Cl g x=a/\P x)/\(Cl g y=b/\P y):=by
 unfold kC at h;split at h
 ·cases h
 next U=>
  obtain⟨a,b,e1,e2,O,h2,T,h4,W⟩:=Q' U Q_;rw[e1,e2]at h;injection h with h;injection h with B h;injection h with C o;simp only[bF]at B C o;obtain⟨X,r,E⟩:∃x r,ps a=x::r:=by cases J:ps a with|nil=>exact absurd J h4|cons x r=>exact⟨x,r,rfl⟩
  obtain⟨Y,t,L⟩:∃x r,ps b=x::r:=by cases J:ps b with|nil=>exact absurd J W|cons x r=>exact⟨x,r,rfl⟩
  rw[E]at B o;rw[L]at C o;simp only[List.headD_cons,List.tail_cons]at B C o;subst B;subst C;subst o;refine⟨a,b,O,h2,T,?_,?_,fun d d1 d2=>?_,e1,e2,w a O _ (by rw[E];exact aQ ..),w b h2 _ (by rw[L];exact aQ ..)⟩
  ·rw[E];simp[upd,T]
  ·rw[L];simp[upd]
  ·simp[upd,d1,d2]
theorem Mi.Wf.ready(w:S.Wf):S.ready.1.Wf:=by
 unfold Mi.ready;split
 ·exact w
 ·split
  ·exact { toWp:=⟨w.sm,w.ps⟩,op:=w.op }
  ·cases B:kC S.ps S.g.D.toNat with
   | none=>exact { toWp:=⟨w.sm,w.ps⟩,op:=w.op }
   | some t=>
    obtain⟨x,y,u⟩:=t;obtain⟨a,b,T,h2,U,C,E,J,_,_,L,O⟩:=vu w.ps B;refine { toWp:=⟨w.sm,fun d hd z o=>?_⟩,op:=.inr ⟨⟨by show 0<=Cl S.g x;omega,L.2⟩,⟨by show 0<=Cl S.g y;omega,O.2⟩⟩ };have o:z∈u d:=o;refine w.ps d hd z ?_;by_cases d1:d=a
    ·subst d1;rw[C];exact aP _ o
    ·by_cases d2:d=b
     ·subst d2;rw[E];exact aP _ o
     ·rw[J d d1 d2]at o;exact o
structure C0(h:Ab)(m:Nat)(S:Mi)(F:Nat->Prop):Prop where
 s:R7 h m S (Out F h)
 lt:∀i,F i->i<h.next
 wf:S.Wf
section
variable{S':Mi}
theorem C0.made(M:C0 h m S F)(s:R7 h' m S' (Bi (Out F h) h h'))(c:As (Out F h) h h')(w:S'.Wf):C0 h' m S' F/\Kf F h h':=by
 refine⟨⟨s.mono (fun i hi=>?_) fun i hi=>hi.1,fun i hi=>aL (M.lt i hi) c.next,w⟩,c.kf⟩;rcases hi with hi|hi
 ·exact⟨aL hi.1 c.next,hi.2⟩
 ·exact⟨hi.2,fun y=>by have:=M.lt i y;omega⟩
theorem C0.ext(M:C0 h m S F)(hb:HB h)(x:Ext h h'):C0 h' m S (Bi F h h'):=by
 refine⟨(M.s.ext hb x).mono (fun i hi=>⟨aL hi.1 x.next,fun y=>?_⟩) fun i hi=>hi.1,Bi.lt M.lt x.next,M.wf⟩;rcases y with y|y
 ·exact hi.2 y
 ·have:=hi.1;omega
theorem C0.less(M:C0 h m S F)(s:∀i,F' i->F i):C0 h m S F':=
 ⟨M.s.mono (fun i hi=>⟨hi.1,fun y=>hi.2 (s i y)⟩) fun i hi=>hi.1,fun i hi=>M.lt i (s i hi),M.wf⟩
theorem C0.iC {T:Nat->Prop}(M:C0 h m S F)(c:As T h h')(t:∀i,T i->i<h.next->F i):C0 h' m S F:=by
 refine⟨(M.s.frame c.next fun i hi=>c.get i hi.1 fun y=>hi.2 (t i y hi.1)).mono (fun i hi=>⟨aL hi.1 c.next,hi.2⟩) fun i hi=>hi.1,fun i hi=>aL (M.lt i hi) c.next,M.wf⟩
theorem C0.same(M:C0 h m S F)(sm:iO h h'):C0 h' m S F:=
 ⟨(M.s.frame (by rw[sm.next];exact aD _) fun i _=>sm.get i).mono (fun i hi=>⟨by rw[sm.next];exact hi.1,hi.2⟩) fun i hi=>hi.1,fun i hi=>by rw[sm.next];exact M.lt i hi,M.wf⟩
end
section
variable (A:Cf disp)(hK:10000<K)(M:C0 h m S F)(hb:HB h)
include A hK M hb
theorem SA(n:Nat):uT disp K n:=fun T _ d hd=>sa A a_ T d hd
theorem Bfk(hd:16<=d):Ok (Ag TT disp K d false 159 [.ptr m 0] h) fun v h'=>v=I S.ready.2/\C0 h' m S.ready.1 F/\Kf F h h'/\HB h':=by
 refine(Axt A hK hd (SA A hK M hb S.dr.ev.length) (aD _) M.s hb).mono ?_;rintro v h' ⟨e,s,c,o⟩;obtain⟨u,k⟩:=M.made s c M.wf.ready;exact⟨e,u,k,o⟩
theorem Wx(hd:18<=d){z:Int}(u:Vp z):Ok (Ag TT disp K d false 97 [.ptr m 0,I z] h) fun v h'=>v=I (S.Av z).2/\C0 h' m (S.Av z).1 F/\Kf F h h'/\HB h':=by
 refine(Ao2 A hK hd (SA A hK M hb S.dr.ev.length) (aD _) M.s hb M.wf.rng.1 M.wf.rng.2 u).mono ?_;rintro v h' ⟨e,s,c,o⟩;obtain⟨B,k⟩:=M.made s c (M.wf.Av z);exact⟨e,B,k,o⟩
end
end
theorem Fm.lift{S:Jp}(d:Fm h D S G):Fm h.lift D S G:=d.frame (aD _) fun i _=>Bx h i
theorem Fm.same {o h4:Ab}{S:Jp}(d:Fm o D S (Bi G h.lift o))(sm:iO o h4):Fm h4 D S (Bi G h h4):=by
 refine(d.frame (h':=h4) (by rw[sm.next];exact aD _) fun j _=>sm.get j).mono (fun j hj=>?_) fun j hj=>?_
 ·rcases hj with y|y
  ·exact .inl y
  ·exact .inr ⟨y.1,by rw[sm.next];exact y.2⟩
 ·rw[sm.next]
  rcases hj with y|y
  ·exact d.lt _ (.inl y)
  ·rw[sm.next]at y;exact y.2
theorem C0.drv{p:Nat}{q c:Nat->Nat}{dr:Jp}(M:C0 h m S F)(hb:HB h)(a:As5 h m D p bl ql np q c S G (Out F h))(d:Fm h' D dr (Bi G h h'))(o:As G h h'):
 C0 h' m { S with dr:=dr } F/\Kf F h h':=by
 have cH:=o.mono a.sub.1;exact M.made ⟨Bi.lt M.s.lt cH.next,D,p,bl,ql,np,q,c,_,a.yC hb d o⟩ cH { toWp:=⟨M.wf.sm,M.wf.ps⟩,op:=M.wf.op }
def Mi.put(S:Mi)(e:En)(Ai Bj Ap seq:Int):Mi × Int:=
 if ¬(C8 { e with Bj:=Bj } Ai S.u Ap seq).2=0 then(S,(C8 { e with Bj:=Bj } Ai S.u Ap seq).2)else
 ({ S with dr:=(S.dr.append Ai (Be (Ls (C8 { e with Bj:=Bj } Ai S.u Ap seq).1))).1 },
  if(S.dr.append Ai (Be (Ls (C8 { e with Bj:=Bj } Ai S.u Ap seq).1))).2.2=0/\¬(S.dr.append Ai (Be (Ls (C8 { e with Bj:=Bj } Ai S.u Ap seq).1))).2.1=S.u then 30 else(S.dr.append Ai (Be (Ls (C8 { e with Bj:=Bj } Ai S.u Ap seq).1))).2.2)
theorem yE:List.replicate 5 (EV.int .i64 0)++List.replicate 44 (EV.int .u8 0)=Fr.zero.cells:=by kernel_rfl
theorem SB(A:Cf disp)(hK:10000<K)(hd:16<=d)(M:C0 h m S F)(hb:HB h)(w:e.Wf)(Ai Bj Ap seq:Int):
 Ok (Ag TT disp K d false 194 [.ptr m 0,.agg e.cells,I Ai,I Bj,I Ap,I seq] h) fun v h'=>v=I (S.put e Ai Bj Ap seq).2/\C0 h' m (S.put e Ai Bj Ap seq).1 F/\Kf F h h'/\HB h':=by
 obtain⟨dd,rfl⟩:=fc d;rw[Amz A a_];have w':({ e with Bj:=Bj }:En).Wf:=⟨w.len,w.u8⟩;have el:=En.Bm w;have U:=En.Bm w';obtain⟨_,D,p,bl,ql,np,q,c,G,a⟩:=M.s;simp only[KZ,Aa];refine Ok.gK (Ad _ _) rfl rfl (by show 5<e.cells.length;omega) ?_;obtain⟨h1,W,x1,X,_⟩:=nP h (.cells e.cells 151) (.cells (e.cells.set 5 (I Bj)) 151);rw[W];have X:h1.get h.next=some (.cells ({ e with Bj:=Bj }:En).cells 151):=X
 unfold Mi.put;generalize ({ e with Bj:=Bj }:En)=e' at X w' U⊢;have C:=x1.hb hb;have l7:=C _ _ X;have m1:=a.Hp.ext fun i o g=>x1.at hb g
 have lm:=C _ _ m1.Hp;rw[Jg l7,Cz X rfl,Ak U]
 try simp only[Aa,Au]
 rw[Jg lm,m1.ou]
 try simp only[Au]
 refine Ok.bE (yz (K:=K) w' (Dj C) hK Ai S.u Ap seq) (fun _ _ p=>p.2) ?_;rintro _ bj h2 ⟨rfl,_⟩ _ x2;have al:=x2.hb C;have Y:=sg w' Ai S.u Ap seq;generalize aa:C8 e' Ai S.u Ap seq=fe at Y⊢;obtain⟨f,er⟩:=fe;have fl:=Fr.Bm Y;have zl:=Fr.Bm Fr.Gu;simp only[Aa,yE,Au];rw[J1];refine Ok.st f.cells (Ad _ _) rfl (by show Fp f.cells=49;rw[Bb,fl]) (Bn (by rw[zl];exact fl.symm)) ?_;obtain⟨h3,W,x3,ad,_⟩:=nP h2 (.cells Fr.zero.cells 136) (.cells f.cells 136);rw[W];have B:=x3.hb al;have E:Ext h h3:=(x1.trans x2).trans x3;simp only[I,Ac];by_cases he:er=0
 ·subst he
  simp only[aC,aA,Aa,ak,KY];obtain⟨hf,ao,_,_⟩:=vv w' (Ai:=Ai) (off:=S.u) (Ap:=Ap) (seq:=seq) (by rw[aa]);rw[aa]at hf;have hf:f=_:=hf;have aq:hH f=true:=by rw[hf];exact ao
  have m3:=a.Hp.ext fun i o g=>E.at hb g
  have aw:=B _ _ m3.Hp;have ax:=B _ _ ad
  try simp only[Au]
  rw[Jg aw,m3.table]
  try simp only[Aa,Au]
  rw[Jg ax,Cz ad rfl,Ak fl]
  try simp only[Aa,Au]
  refine Ok.bE (zk (K:=K) Y aq (Dj B) hK) (fun _ _ p=>p.2) ?_;rintro _ bo h4 ⟨rfl,_⟩ _ x4;have ay:=x4.hb B;have ul:(Be (Ls f)).length=64:=by rw[Az,oD Y]
  try simp only[Aa,Au]
  rw[J1];refine Ok.st (Be (Ls f)) (Ad _ _) rfl (by show Fp (Be (Ls f))=64;rw[Bb,ul]) (Bn (by rw[bO];exact ul.symm)) ?_;obtain⟨h5,W,x5,ae,_⟩:=nP h4 (.cells (List.replicate 64 (EV.int .u8 0)) 32) (.cells (Be (Ls f)) 32);rw[W];have J:=x5.hb ay;have af:Ext h h5:=(E.trans x4).trans x5;have M5:=M.ext hb af;clear m3 m1 a;obtain⟨_,D,p,bl,ql,np,q,c,G,a⟩:=M5.s;have az:=J _ _ a.Hp.Hp;have a1:=J _ _ ae;simp only[KX,Aa,Ac,I,aC,aA,Au];rw[Jg az,a.Hp.Da]
  try simp only[Aa,Au]
  rw[Jg a1,Cz ae rfl,Ak ul]
  try simp only[Aa,Au]
  refine Ok.bC (S:=G) (zJ (K:=K) A a_ (d:=dd) a_ (fun k hk=>sa A a_ S.dr k hk) a.drv.lift (Dj J) Ai ul ⟨_,zp Y,rfl⟩) (fun _ _ p=>p.2.2.1) ?_;rintro _ h6 h7 s' ⟨rfl,d6,_,a2⟩ sm c7 _;have L:=sm.hb a2;obtain⟨O,k7⟩:=M5.drv J a (d6.same sm) c7;have T:Kf F h h7:=af.nq k7;have O:=O.less fun i (hi:F i)=>Or.inl hi
  generalize S.dr.append Ai (Be (Ls f))=ap at O⊢;obtain⟨dr,off,er⟩:=ap;obtain⟨_,D,p,bl,ql,np,q,c,G,a⟩:=O.s;simp only[Aa,I,Ac];by_cases h0:er=0
  ·simp only[h0,aB,Aa,a.Hp.ou,I,Ac,gF]
   by_cases h1:off=S.u
   ·simp only[h1,aC,aA,Aa,Na,Nc,ak]
    exact .ret ⟨rfl,O,T,L⟩
   ·simp only[h1,aG,aB,Aa,Na,Nc,bN]
    exact .ret ⟨rfl,O,T,L⟩
  ·simp only[h0,aA,Aa,Na,Nc,gI,ak]
   exact .ret ⟨rfl,O,T,L⟩
 ·simp only[he,aG,aB,Aa,bN]
  exact .ret ⟨rfl,(M.ext hb E).less fun i (hi:F i)=>Or.inl hi,E.kf,B⟩
theorem Mi.Wf.put(w:S.Wf)(e:En)(Ai Bj Ap seq:Int):(S.put e Ai Bj Ap seq).1.Wf:=by
 unfold Mi.put;split
 ·exact w
 ·exact { toWp:=⟨w.sm,w.ps⟩,op:=w.op }
def Mi.both(S:Mi)(e:En)(Ap seq:Int):Mi × Int × Int:=
 if ¬(S.put e S.a S.b Ap seq).2=0 then((S.put e S.a S.b Ap seq).1,S.a,(S.put e S.a S.b Ap seq).2)else
 (((S.put e S.a S.b Ap seq).1.put e S.b S.a Ap seq).1,S.b,((S.put e S.a S.b Ap seq).1.put e S.b S.a Ap seq).2)
theorem Bkc(A:Cf disp)(hK:10000<K)(hd:17<=d)(M:C0 h m S F)(hb:HB h)(w:e.Wf)(Ap seq:Int):
 Ok (Ag TT disp K d false 160 [.ptr m 0,.agg e.cells,I Ap,I seq] h) fun v h'=>v=.tuple [I (S.both e Ap seq).2.1,I (S.both e Ap seq).2.2]/\C0 h' m (S.both e Ap seq).1 F/\Kf F h h'/\HB h':=by
 obtain⟨dd,rfl⟩:=fc d;rw[Akv A a_];have el:=En.Bm w;simp only[HK,Aa];obtain⟨X,T,E,C,Y⟩:=nW h (.cells e.cells 151);rw[T];have o:=E.hb hb;have L:=M.ext hb E;obtain⟨_,D,p,bl,ql,np,q,c,G,a⟩:=L.s;rw[a.Hp.oa]
 try simp only[Aa]
 rw[a.Hp.ob,Cz C rfl,Ak el]
 try simp only[Aa]
 refine(SB A hK a_ L o w S.a S.b Ap seq).Ao ?_;rintro _ h2 ⟨rfl,M2,O,u⟩;have B:Kf F h h2:=E.nq O;have C:=O.at o C (.inr ⟨aD _,a_⟩);unfold Mi.both;simp only[I,Ac];by_cases h0:(S.put e S.a S.b Ap seq).2=0
 ·simp only[h0,aC,aA,Aa,ak,Yw]
  rw[Cz C rfl,Ak el]
  try simp only[Aa]
  have M2:=M2.less fun i (hi:F i)=>Or.inl hi
  refine(SB A hK a_ M2 u w S.b S.a Ap seq).Ao ?_;rintro _ h3 ⟨rfl,U,W,J⟩;exact .ret ⟨rfl,U,B.trans W,J⟩
 ·simp only[h0,aG,aB,Aa,bN]
  exact .ret ⟨rfl,M2.less fun i (hi:F i)=>Or.inl hi,B,u⟩
theorem Mi.Wf.both(w:S.Wf)(e:En)(Ap seq:Int):(S.both e Ap seq).1.Wf:=by
 unfold Mi.both;split
 ·exact w.put ..
 ·exact(w.put ..).put ..
theorem Bfw(D:Nat)(g:Gm)(p bl n:Nat)(a b u o:Int):(Abr D g p bl n a b u).set 267 (I o)=Abr D g p bl n a b o:=by
 unfold Abr;have B:([EV.ptr D 0]++gL g++Bh).length=263:=by rw[aF,Nt];rfl
 rw[eO _ _ a_,B];rfl
def Mi.iY(S:Mi):Mi:={ S with u:=Cr .i64 (S.u+1) }
theorem Mi.Wf.iY(w:S.Wf):S.iY.Wf:={ toWp:=⟨w.sm,w.ps⟩,op:=w.op }
theorem SC(M:C0 h m S F)(hb:HB h)(hk:∀h',C0 h' m S.iY F->Kf F h h'->HB h'->Ext h h'\/True->h'.next=h.next->(∀i,F i->h'.get i=h.get i)->Ok (kk h') Q):
 Ok (Ec (.ptr m 267) h fun v=>K1 kJ (bin TT .add 3) v (.int .i64 1) fun w=>f_ 1 (.ptr m 267) w h kk) Q:=by
 obtain⟨lt,D,p,bl,ql,np,q,c,G,a⟩:=M.s;rw[a.Hp.ou];simp only[I,Ac];have ml:=yf D S.g p bl (S.g.D*S.g.Z).toNat S.a S.b S.u;have lm:=hb _ _ a.Hp.Hp;refine Ok.gK a.Hp.Hp rfl rfl a_ ?_;rw[show EV.int .i64 (Cr .i64 (S.u+1))=I (Cr .i64 (S.u+1))from rfl,Bfw];have c1:As (fun i=>i=m) h (h.put m (.cells (Abr D S.g p bl (S.g.D*S.g.Z).toNat S.a S.b (Cr .i64 (S.u+1))) 113)):=(As.refl (S:=fun i=>i=m) h).Aq (.inl rfl) lm _;have B:=a.yD hb (Ae _ _ _) c1;have o:∀i,F i->i≠m:=fun i hi y=>by subst y;exact a.sub.2.1.2 hi
 refine hk _ ⟨⟨fun i hi=>hi.1,D,p,bl,ql,np,q,c,G,?_⟩,fun i hi=>M.lt i hi,M.wf.iY⟩ (c1.mono fun i hi y=>o i y hi) (hb.put lm _) (.inr trivial) rfl (fun i hi=>Af _ (cX (o i hi)));exact B
def Mi.Ho(B:Mi × Int × Int):Mi:=if B.2.1=B.1.b then B.1.iY else B.1
def Me.zero:Me:=⟨0,0,0,0,0,0⟩
def Mi.Lk(e:En)(Ap seq:Int):Nat->Mi->Mi × Me × Int
 | 0,S=>(S,Me.zero,0)
 | n+1,S=>
  if ¬S.ready.2=0 then(S.ready.1,Me.zero,S.ready.2)else
  if(S.ready.1.both e Ap seq).2.2=0 then((S.ready.1.both e Ap seq).1.iY,⟨1,(S.ready.1.both e Ap seq).1.a,(S.ready.1.both e Ap seq).1.b,(S.ready.1.both e Ap seq).1.u,seq,E5 e.bytes⟩,0)else
  if(S.ready.1.both e Ap seq).2.2=34 then((S.ready.1.both e Ap seq).1,Me.zero,34)else
  if((Mi.Ho (S.ready.1.both e Ap seq)).Av (S.ready.1.both e Ap seq).2.1).2=34 then(((Mi.Ho (S.ready.1.both e Ap seq)).Av (S.ready.1.both e Ap seq).2.1).1,Me.zero,34)else
  Lk e Ap seq n ((Mi.Ho (S.ready.1.both e Ap seq)).Av (S.ready.1.both e Ap seq).2.1).1
def Mi.place(S:Mi)(e:En)(Ap seq:Int):Mi × Me × Int:=
 if ¬(C8 e 0 0 Ap seq).2=0 then(S,Me.zero,(C8 e 0 0 Ap seq).2)else Mi.Lk e Ap seq 1000 S
def jK(bad:Nat->Int)(n:Nat):Nat:=((List.range n).filter fun i=>¬bad i=1).length
theorem vC(bad:Nat->Int)(n:Nat):jK bad n<=n:=by
 unfold jK;have:=eL (fun i=>decide (¬bad i=1)) (List.range n);simpa using this
theorem A9k(bad:Nat->Int){z:Nat}(o:z<n)(hb:¬bad z=1):jK (fun i=>if i=z then 1 else bad i) n<jK bad n:=by
 unfold jK;induction n with
 | zero=>omega
 | succ n ih=>
  rw[dB,eK,eK,aF,aF];by_cases h:z=n
  ·subst h
   have e1:((List.range z).filter fun i=>decide (¬(if i=z then(1:Int)else bad i)=1))=(List.range z).filter fun i=>decide (¬bad i=1):=by
    refine List.filter_congr fun i hi=>?_
    have:=eW.1 hi;rw[aH a_]
   have e2:([z].filter fun i=>decide (¬(if i=z then(1:Int)else bad i)=1)) = []:=by simp
   have e3:([z].filter fun i=>decide (¬bad i=1)) = [z]:=by simp[hb]
   rw[e1,e2,e3];simp
  ·have:=ih a_
   have e2:([n].filter fun i=>decide (¬(if i=z then(1:Int)else bad i)=1)) = [n].filter fun i=>decide (¬bad i=1):=by
    have:¬n=z:=fun y=>h y.symm
    rw[fM,fM];simp[this]
   rw[e2];omega
theorem vA(S:Mi):S.ready.1.g=S.g/\S.ready.1.bad=S.bad:=by
 unfold Mi.ready;split
 ·exact⟨rfl,rfl⟩
 ·split
  ·exact⟨rfl,rfl⟩
  ·split<;>exact⟨rfl,rfl⟩
theorem sk(S:Mi)(e:En)(Ai Bj Ap seq:Int):(S.put e Ai Bj Ap seq).1.g=S.g/\(S.put e Ai Bj Ap seq).1.bad=S.bad/\(S.put e Ai Bj Ap seq).1.a=S.a/\(S.put e Ai Bj Ap seq).1.b=S.b/\(S.put e Ai Bj Ap seq).1.u=S.u/\(S.put e Ai Bj Ap seq).1.ps=S.ps:=by
 unfold Mi.put;split<;>exact⟨rfl,rfl,rfl,rfl,rfl,rfl⟩
theorem vz(S:Mi)(e:En)(Ap seq:Int):(S.both e Ap seq).1.g=S.g/\(S.both e Ap seq).1.bad=S.bad/\(S.both e Ap seq).1.a=S.a/\(S.both e Ap seq).1.b=S.b/\(S.both e Ap seq).1.u=S.u/\(S.both e Ap seq).1.ps=S.ps /\
 ((S.both e Ap seq).2.1=S.a\/(S.both e Ap seq).2.1=S.b):=by
 unfold Mi.both;obtain⟨o,B,a3,a4,C,E⟩:=sk S e S.a S.b Ap seq;obtain⟨b1,b2,b3,b4,J,L⟩:=sk (S.put e S.a S.b Ap seq).1 e S.b S.a Ap seq;split
 ·exact⟨o,B,a3,a4,C,E,.inl rfl⟩
 ·exact⟨b1.trans o,b2.trans B,b3.trans a3,b4.trans a4,J.trans C,L.trans E,.inr rfl⟩
theorem Boj(B:Mi × Int × Int):(Mi.Ho B).g=B.1.g/\(Mi.Ho B).bad=B.1.bad/\(Mi.Ho B).a=B.1.a/\(Mi.Ho B).b=B.1.b:=by
 unfold Mi.Ho;split<;>exact⟨rfl,rfl,rfl,rfl⟩
theorem vB(S:Mi)(z:Int):(S.Av z).1.g=S.g:=by
 unfold Mi.Av;split
 ·rfl
 ·split
  ·rfl
  ·split
   ·rfl
   ·exact(sr _).1
theorem zY(w:S.Wf){z:Int}(u:0<=Cl S.g z)(hb:¬S.bad z.toNat=1):jK (S.Av z).1.bad (S.g.D*S.g.Z).toNat<jK S.bad (S.g.D*S.g.Z).toNat:=by
 have o:(S.Av z).1.bad=fun i=>if i=z.toNat then 1 else S.bad i:=by
  unfold Mi.Av;rw[aH a_,aH (by unfold Mi.It;rw[aU hb,eC];simp)];split
  ·rfl
  ·exact(sr _).2.2.2.2
 rw[o];refine A9k S.bad ?_ hb;rcases Z6 w.sm z with y|⟨_,_,_,B,C⟩<;>omega
theorem A9u(w:S.Wf)(h:S.ready.2=0):(0<=Cl S.ready.1.g S.ready.1.a/\¬S.ready.1.bad S.ready.1.a.toNat=1)/\(0<=Cl S.ready.1.g S.ready.1.b/\¬S.ready.1.bad S.ready.1.b.toNat=1):=by
 rcases w.ready.op with⟨y,_⟩|y
 ·exfalso
  revert h y;unfold Mi.ready;split
  next h0=>intro _ y;exact h0.1 y
  ·split
   next u=>intro y _;exact u y
   ·cases B:kC S.ps S.g.D.toNat with
    | none=>intro y _;simp at y
    | some t=>
     obtain⟨x,y,C⟩:=t;obtain⟨a,b,_,_,_,_,_,_,_,_,E,_⟩:=vu w.ps B;intro _ o;have o:x = -1:=o;have:=lI w.sm (z:=x) (by rw[E.1];omega);omega
 ·exact y
theorem kz:TT.size 87=some 6/\TT.agg 87=some true:=⟨by kernel_rfl,by kernel_rfl⟩
theorem Bbs(A:Cf disp)(hK:10000<K)(hd:19<=d)(w:e.Wf)(Ap seq:Int){Y o:Nat}:∀(n f:Nat) (h:Ab) (S:Mi) (F:Nat->Prop),jK S.bad (S.g.D*S.g.Z).toNat<n->n<=f->C0 h m S F->HB h->F Y->F o->Y≠o ->
 h.get Y=some (.cells e.cells 151)->h.get o=some (.cells Me.zero.cells 87) ->
 Ok (Ga (Ag TT disp K d false) (Ag TT disp K d true) K f (.ptr m 0) (I Ap) (I seq) (.ptr Y 0) (.ptr o 0) h) fun v h'=>v=.tuple [.agg (Mi.Lk e Ap seq n S).2.1.cells,I (Mi.Lk e Ap seq n S).2.2]/\C0 h' m (Mi.Lk e Ap seq n S).1 (fun i=>F i/\¬i=o)/\Kf (fun i=>F i/\¬i=o) h h'/\HB h':=by
 intro n;induction n with
 | zero=>intro f h S F hg;omega
 | succ n ih=>
  intro f h S F hg hf M hb f5 f8 ay g5 g8;obtain⟨f,rfl⟩:=fc f;have el:=En.Bm w;have sub:∀i,(F i/\¬i=o)->F i:=fun i hi=>hi.1
  have fin:∀(me:Me) (er:Int) (J:Ab) (S5:Mi),C0 J m S5 F->Kf F h J->HB J->(S5,me,er)=Mi.Lk e Ap seq (n+1) S ->
   Ok (f_ 6 (.ptr o 0) (.agg me.cells) J fun h=>Iq TT [.c (.ptr o 0) 87,.v (I er)] h) fun v h'=>v=.tuple [.agg (Mi.Lk e Ap seq (n+1) S).2.1.cells,I (Mi.Lk e Ap seq (n+1) S).2.2]/\C0 h' m (Mi.Lk e Ap seq (n+1) S).1 (fun i=>F i/\¬i=o)/\Kf (fun i=>F i/\¬i=o) h h'/\HB h':=by
   intro me er J S5 M5 k5 E he;have ai:=k5.at hb g8 f8;have l8:=E _ _ ai;refine Ok.st me.cells ai rfl rfl (Bn rfl) ?_;rw[Fi (Ae _ _ _) kz.1 kz.2 rfl,<-he];have c8:As (fun i=>i=o) J (J.put o (.cells me.cells 87)):=(As.refl (S:=fun i=>i=o) J).Aq (.inl rfl) l8 _;exact .ret ⟨rfl,(M5.iC c8 fun i hi _=>hi▸f8).less sub,(k5.less sub).trans (c8.mono fun i hi y=>y.2 hi),E.put l8 _⟩
  unfold Mi.Lk at fin⊢;simp only[Ga,dr];refine(Bfk A hK M hb a_).Ao ?_;rintro _ h1 ⟨rfl,M1,k1,aj⟩;simp only[I,Ac];by_cases hr:S.ready.2=0
  ·rw[aH (show ¬¬S.ready.2=0 from fun y=>y hr)]at fin⊢
   have op:=A9u M.wf hr;have ao:=(vA S);simp only[hr,aC,aA,Aa,Xk];have a2:=k1.at hb g5 f5;rw[Cz a2 rfl,Ak el]
   try simp only[Aa]
   refine(Bkc A hK a_ M1 aj w Ap seq).Ao ?_;rintro _ h2 ⟨rfl,M2,k2,C⟩;have L:Kf F h h2:=k1.trans k2;have O:=vz S.ready.1 e Ap seq;generalize hB:S.ready.1.both e Ap seq=B at M2 fin O⊢;obtain⟨T,z,er⟩:=B;simp only at M2 fin O⊢;have cb:z≠z->False:=fun y=>y rfl
   simp only[Aa,I,Ac];by_cases h0:er=0
   ·rw[aK h0]at fin⊢
    simp only[h0,aB,Aa,Au];obtain⟨a5,D,p,bl,ql,np,q,c,G,a⟩:=M2.s;have lm:=C _ _ a.Hp.Hp;have a6:=L.at hb g5 f5;rw[Jg lm,a.Hp.oa]
    try simp only[Aa,Au]
    rw[Jg lm,a.Hp.ob]
    try simp only[Aa,Au]
    rw[Jg lm,a.Hp.ou]
    try simp only[Aa,Au]
    rw[Jg lm,a.Hp.table]
    try simp only[Aa,Au]
    rw[show ∀k:EV->R,Oz 32 1 (.ptr Y 6) none none none k=k (.slice Y 6 32 32 false)from fun k=>rfl]
    try simp only[Aa,Au]
    have bs:Bs h2.lift (.slice Y 6 32 32 false) Y 6 e.bytes:=by
     refine⟨32,false,_,e.cells,by rw[w.len],by rw[w.len];omega,by rw[Bx];exact a6,rfl,by rw[el,w.len];exact aD _,?_⟩;unfold En.cells;rw[w.len];show(Be e.bytes).take 32=_;rw[bQ (by rw[Az,w.len];omega)]
    refine Ok.bE (uP (K:=K) hK bs (Dj C) w.u8 (by rw[w.len];omega)) (fun _ _ p=>p.2) ?_;rintro _ cc X ⟨rfl,_⟩ _ x3;have U:=x3.hb C;have cf:=sA w.u8;simp only[Nk,Aa];rw[show Cr .i64 (Int.ofNat (E5 e.bytes))=(E5 e.bytes:Int)from Cn (by show -9223372036854775808<=((E5 e.bytes:Nat):Int);omega) (by show((E5 e.bytes:Nat):Int)<=_;omega)];rw[Ax (l:=(⟨1,T.a,T.b,T.u,seq,E5 e.bytes⟩:Me).cells) rfl]
    try simp only[Aa,Au]
    rw[J1];refine Ok.st (⟨1,T.a,T.b,T.u,seq,E5 e.bytes⟩:Me).cells (Ad _ _) rfl rfl (Bn rfl) ?_;obtain⟨h4,e_,x4,ba,n4⟩:=nP X (.cells [EV.int .i64 0,.int .i64 0,.int .i64 0,.int .i64 0,.int .i64 0,.int .i64 0] 87) (.cells (⟨1,T.a,T.b,T.u,seq,E5 e.bytes⟩:Me).cells 87);rw[e_];have aa:=x4.hb U;have aq:Ext h2 h4:=x3.trans x4;have M4:=M2.ext C aq;refine SC M4 aa ?_;intro J M5 k5 E _ n5 e5;have bb:Bi F h2 h4 X.next:=.inr ⟨x3.next,a_⟩
    rw[Cz (by rw[e5 _ bb];exact ba) rfl,Ak (n:=6) rfl]
    try simp only[Aa]
    refine fin _ _ J T.iY (M5.less fun i (hi:F i)=>Or.inl hi) (L.trans (aq.nq k5)) E rfl
   ·rw[aH h0]at fin⊢
    simp only[h0,aA,Aa,Ac];by_cases ad:er=34
    ·rw[aK ad]at fin⊢
     simp only[ad,aB,Aa];rw[Ax (l:=Me.zero.cells) rfl];exact fin _ _ h2 T M2 L C rfl
    ·rw[aH ad]at fin⊢
     simp only[ad,aA,Aa,Yn];obtain⟨a5,D,p,bl,ql,np,q,c,G,a⟩:=M2.s;rw[a.Hp.ob];simp only[I,Ac];have hz:0<=Cl T.g z/\¬T.bad z.toNat=1:=by
      obtain⟨e1,e2,e3,e4,_,_,e5⟩:=O;rw[e1,e2];rcases e5 with e5|e5
      ·rw[e5];exact op.1
      ·rw[e5];exact op.2
     have go:∀(X:Ab),C0 X m (Mi.Ho (T,z,er)) F->Kf F h X->HB X ->
      Ok (Po (Ag TT disp K d false) (Ag TT disp K d true) K (Ga (Ag TT disp K d false) (Ag TT disp K d true) K f) (.ptr m 0) (I Ap) (I seq) (.ptr Y 0) (.ptr o 0) (I z) X) fun v h'=>
       v=.tuple [.agg (if((Mi.Ho (T,z,er)).Av z).2=34 then(((Mi.Ho (T,z,er)).Av z).1,Me.zero,(34:Int))else Mi.Lk e Ap seq n ((Mi.Ho (T,z,er)).Av z).1).2.1.cells,I (if((Mi.Ho (T,z,er)).Av z).2=34 then(((Mi.Ho (T,z,er)).Av z).1,Me.zero,(34:Int))else Mi.Lk e Ap seq n ((Mi.Ho (T,z,er)).Av z).1).2.2] /\
        C0 h' m (if((Mi.Ho (T,z,er)).Av z).2=34 then(((Mi.Ho (T,z,er)).Av z).1,Me.zero,(34:Int))else Mi.Lk e Ap seq n ((Mi.Ho (T,z,er)).Av z).1).1 (fun i=>F i/\¬i=o)/\Kf (fun i=>F i/\¬i=o) h h'/\HB h':=by
      intro X M3 k3 U;obtain⟨u1,u2,u3,u4⟩:=Boj (T,z,er);simp only at u1 u2 u3 u4;have af:0<=Cl (Mi.Ho (T,z,er)).g z/\¬(Mi.Ho (T,z,er)).bad z.toNat=1:=by rw[u1,u2];exact hz
      have less:=zY M3.wf af.1 af.2;have qg:=vB (Mi.Ho (T,z,er)) z;simp only[Po,dr];refine(Wx A hK M3 U a_ (oI M3.wf.sm af.1)).Ao ?_;rintro _ h4 ⟨rfl,M4,k4,aa⟩;have ae:Kf F h h4:=k3.trans k4;simp only[I,Ac];by_cases hq:((Mi.Ho (T,z,er)).Av z).2=34
      ·rw[aK hq]at fin⊢
       simp only[hq,aB,Aa];rw[Ax (l:=Me.zero.cells) rfl];exact fin _ _ h4 _ M4 ae aa rfl
      ·rw[aH hq]
       simp only[hq,aA,Aa];have bn:=ae.at hb g5 f5;have bo:=ae.at hb g8 f8;refine(ih f h4 _ F ?_ a_ M4 aa f5 f8 ay bn bo).mono ?_
       ·rw[qg]
        have e1:(Mi.Ho (T,z,er)).g=S.g:=by rw[u1,O.1,ao.1]
        have e2:(Mi.Ho (T,z,er)).bad=S.bad:=by rw[u2,O.2.1,ao.2]
        rw[e1,e2]at less;rw[e1];omega
       ·rintro v J ⟨ev,M5,k5,E⟩
        exact⟨ev,M5,(ae.less sub).trans k5,E⟩
     by_cases W:z=T.b
     ·simp only[W,aB,Aa]
      refine SC M2 C ?_;intro X M3 k3 U _ _ _;have:=go X (by unfold Mi.Ho;rw[aK W];exact M3) (L.trans k3) U;rw[W]at this;exact this
     ·simp only[W,aA,Aa]
      exact go h2 (by unfold Mi.Ho;rw[aH W];exact M2) L C
  ·rw[aK hr]at fin⊢
   simp only[hr,aG,aB,Aa];rw[Ax (l:=Me.zero.cells) rfl];exact fin _ _ h1 _ M1 k1 aj rfl
theorem XZ(A:Cf disp)(hK:10000<K)(hd:20<=d)(M:C0 h m S F)(hb:HB h)(w:e.Wf)(Ap seq:Int):
 Ok (Ag TT disp K d false 108 [.ptr m 0,.agg e.cells,I Ap,I seq] h) fun v h'=>v=.tuple [.agg (S.place e Ap seq).2.1.cells,I (S.place e Ap seq).2.2]/\C0 h' m (S.place e Ap seq).1 F/\Kf F h h'/\HB h':=by
 obtain⟨dd,rfl⟩:=fc d;rw[Ai2 A a_];have el:=En.Bm w;simp only[LA,Aa];rw[show(h.new (.cells e.cells 151)).next=h.next+1 from rfl];have T:Ext h ((h.new (.cells e.cells 151)).new (.cells Me.zero.cells 87)):=(As.new _ _).Dn _;have O:((h.new (.cells e.cells 151)).new (.cells Me.zero.cells 87)).get h.next=some (.cells e.cells 151):=by
  rw[Ba _ (aT _)];exact Ad _ _
 have L:((h.new (.cells e.cells 151)).new (.cells Me.zero.cells 87)).get (h.next+1)=some (.cells Me.zero.cells 87):=Ad _ _;have n1:((h.new (.cells e.cells 151)).new (.cells Me.zero.cells 87)).next=h.next+2:=rfl
 rw[show(Ds.cells [EV.int .i64 0,.int .i64 0,.int .i64 0,.int .i64 0,.int .i64 0,.int .i64 0] 87)=.cells Me.zero.cells 87 from rfl];generalize (h.new (.cells e.cells 151)).new (.cells Me.zero.cells 87)=h1 at T O L n1⊢;have o:=T.hb hb;rw[Cz O rfl,Ak el]
 try simp only[Aa]
 refine(yz (K:=K) w o hK 0 0 Ap seq).Ao ?_;rintro _ h2 ⟨rfl,U⟩;have W:=U.hb o;have fw:=sg w 0 0 Ap seq;unfold Mi.place;generalize C8 e 0 0 Ap seq=fe at fw⊢;obtain⟨f,er⟩:=fe;have fl:=Fr.Bm fw;have zl:=Fr.Bm Fr.Gu;simp only[Aa,yE];refine Ok.st f.cells (Ad _ _) rfl (by show Fp f.cells=49;rw[Bb,fl]) (Bn (by rw[zl];exact fl.symm)) ?_;obtain⟨u,e_,X,_,_⟩:=nP h2 (.cells Fr.zero.cells 136) (.cells f.cells 136);rw[e_];have C:=X.hb W;have E:Ext h u:=(T.trans U).trans X;have J:Ext h1 u:=U.trans X;have M3:=M.ext hb E;have O:=J.at o O;have L:=J.at o L;have ln:h.next+2<=u.next:=by have:=J.next;omega
 simp only[I,Ac];by_cases he:er=0
 ·subst he
  simp only[aC,aA,Aa,ak,Xj];have gl:=vC S.bad (S.g.D*S.g.Z).toNat;have:(S.g.D*S.g.Z).toNat<=512:=by
   have h1:=M.wf.sm.d1;have h2:=M.wf.sm.z1;have u:=M.wf.sm.d0;have h4:=M.wf.sm.z0;obtain⟨m0,m1⟩:=Nz (a:=S.g.D) (b:=S.g.Z) (A:=8) (B:=64);omega
  refine(Bbs A hK a_ w Ap seq 1000 K u S (Bi F h u) a_ a_ M3 C (.inr ⟨a_,a_⟩) (.inr ⟨a_,a_⟩) a_ O L).mono ?_;rintro v h4 ⟨ev,M4,k4,Y⟩;refine⟨ev,M4.less fun i (hi:F i)=>⟨.inl hi,fun y=>by have:=M.lt i hi;omega⟩,?_,Y⟩;exact As.then (S:=fun i=>¬F i) (Ext.to E) k4 fun i y hl z=>y ⟨.inl z,fun y=>by have:=M.lt i z;omega⟩
 ·simp only[he,aG,aB,Aa,bN]
  rw[Ax (l:=Me.zero.cells) rfl];refine Ok.st Me.zero.cells L rfl rfl (Bn rfl) ?_;rw[Fi (Ae _ _ _) kz.1 kz.2 rfl];have l8:=C _ _ L;have x4:Ext h (u.put (h.next+1) (.cells Me.zero.cells 87)):=E.Aq (.inr a_) l8 _;exact .ret ⟨rfl,(M.ext hb x4).less fun i (hi:F i)=>Or.inl hi,x4.kf,C.put l8 _⟩
def Bq9:EV->Nat
 | .int _ n=>n.toNat
 | _=>0
def jW(x:List EV):List Nat:=x.map Bq9
theorem sj(l:List Nat):jW (Be l)=l:=by
 unfold jW Be;rw[List.map_map];exact(cY (fun a _=>rfl)).trans (List.map_id l)
theorem U8.Brl {x:List EV}(u:U8 x):Be (jW x)=x/\∀b∈jW x,b<256:=by
 obtain⟨l,h,rfl⟩:=u;rw[sj];exact⟨rfl,h⟩
theorem A9z(x:List EV):(jW x).length=x.length:=bT ..
theorem uV{l:List EV}{v w:EV}(o:h.get i=some (.cells l t))(hs:TT.size t=some n)(u:TT.agg t=some true)(B:l.length=n):Iq TT [.c (.ptr i 0) t,.v v,.v w] h=some (.tuple [.agg l,v,w],h):=by
 have C:I6 h i 0 n=some l:=by
  unfold I6;rw[o];simp only;rw[<-mK];exact Ak B
 unfold Iq;simp only[jV,hs,C,u]
def km(s:List Nat)(x:Me)(Ai Bj:Int):Bool × List Nat:=
 if(hD s Ai x.off).2=0/\¬(hD s Ai x.off).1.kind=2/\(hD s Ai x.off).1.seq=x.seq/\(Ux (hD s Ai x.off).1).2=0/\(Ux (hD s Ai x.off).1).1.Bj=Bj/\((E5 (Ux (hD s Ai x.off).1).1.bytes:Nat):Int)=x.sum
 then(true,(Ux (hD s Ai x.off).1).1.bytes)else(false,Di)
def Mi.Cw(S:Mi)(x:Me)(Ai Bj:Int):Mi × List Nat × Bool × Int:=
 if(S.dr.read Ai x.off).2.2=0 then({ S with dr:=(S.dr.read Ai x.off).1 },(km (jW (S.dr.read Ai x.off).2.1) x Ai Bj).2,(km (jW (S.dr.read Ai x.off).2.1) x Ai Bj).1,0)else
 if(S.dr.read Ai x.off).2.2=34 then({ S with dr:=(S.dr.read Ai x.off).1 },Di,false,34)else
 if(S.dr.read Ai x.off).2.2=32 then((({ S with dr:=(S.dr.read Ai x.off).1 }:Mi).Av Ai).1,Di,false,if(({ S with dr:=(S.dr.read Ai x.off).1 }:Mi).Av Ai).2=34 then 34 else 0)else
 ({ S with dr:=(S.dr.read Ai x.off).1 },Di,false,0)
theorem Bji(A:Cf disp)(hK:10000<K)(hd:19<=d)(M:C0 h m S F)(hb:HB h){z:Int}(C:Vp z):
 Ok (Ag TT disp K d false 163 [.ptr m 0,I z] h) fun v h'=>v=I (if(S.Av z).2=34 then 34 else 0)/\C0 h' m (S.Av z).1 F/\Kf F h h'/\HB h':=by
 obtain⟨e,rfl⟩:=fc d;rw[Ak8 A a_];simp only[HL,dr];refine(Wx A hK M hb a_ C).Ao ?_;rintro _ E ⟨rfl,u,B,o⟩;simp only[I,Ac,Y6];by_cases h0:(S.Av z).2=34
 ·simp only[h0,aB,Aa,bN]
  exact .ret ⟨rfl,u,B,o⟩
 ·simp only[h0,aA,Aa,ak]
  exact .ret ⟨rfl,u,B,o⟩
theorem jk:TT.size 81=some 32/\TT.agg 81=some true:=⟨by kernel_rfl,by kernel_rfl⟩
theorem my:Di.length=32:=rfl
theorem SD(w:f.Wf):(Ux f).1.Wf:=by
 unfold Ux;split
 ·exact En.Gu
 ·split
  ·exact En.Gu
  ·exact RS w.len w.u8
theorem Bh0 {s:List Nat}(o:s.length=64)(hu:∀b∈s,b<256)(x:Me)(Ai Bj:Int)(w:(hD s Ai x.off).1.Wf):(km s x Ai Bj).2.length=32/\∀b∈(km s x Ai Bj).2,b<256:=by
 unfold km;split
 ·exact⟨(SD w).len,(SD w).u8⟩
 ·exact⟨rfl,fun b hb=>by rw[bY hb];decide⟩
theorem SE(A:Cf disp)(hK:10000<K)(hd:20<=d)(M:C0 h m S F)(hb:HB h)(x:Me){Ai:Int}(hz:Vp Ai)(Bj:Int):
 Ok (Ag TT disp K d false 112 [.ptr m 0,.agg x.cells,I Ai,I Bj] h) fun v h'=>v=.tuple [.agg (Be (S.Cw x Ai Bj).2.1),.bool (S.Cw x Ai Bj).2.2.1,I (S.Cw x Ai Bj).2.2.2]/\(S.Cw x Ai Bj).2.1.length=32/\(∀b∈(S.Cw x Ai Bj).2.1,b<256)/\C0 h' m (S.Cw x Ai Bj).1 F/\Kf F h h'/\HB h':=by
 obtain⟨dd,rfl⟩:=fc d;rw[Alg A a_];simp only[LB,Aa];rw[show(h.new (.cells x.cells 87)).next=h.next+1 from rfl,Fx];have x1:Ext h ((h.new (.cells x.cells 87)).new (.cells (Be Di) 81)):=(As.new _ _).Dn _;have E:((h.new (.cells x.cells 87)).new (.cells (Be Di) 81)).get h.next=some (.cells x.cells 87):=by
  rw[Ba _ (aT _)];exact Ad _ _
 have C:((h.new (.cells x.cells 87)).new (.cells (Be Di) 81)).get (h.next+1)=some (.cells (Be Di) 81):=Ad _ _;have n1:((h.new (.cells x.cells 87)).new (.cells (Be Di) 81)).next=h.next+2:=rfl
 generalize (h.new (.cells x.cells 87)).new (.cells (Be Di) 81)=h1 at x1 E C n1⊢;have U:=x1.hb hb;have M1:=M.ext hb x1;obtain⟨_,D,p,bl,ql,np,q,c,G,a⟩:=M1.s;have lm:=U _ _ a.Hp.Hp;have l5:=U _ _ E;have F5:Bi F h h1 h.next:=.inr ⟨aD _,a_⟩
 have F8:Bi F h h1 (h.next+1):=.inr ⟨a_,a_⟩;rw[Jg lm,a.Hp.Da]
 try simp only[Aa,Au]
 rw[Jg l5,Al E rfl (v:=I x.off) rfl]
 try simp only[Aa,Au]
 refine Ok.bC (S:=G) (A6n (K:=K) A (d:=dd) a_ (fun k hk=>sa A a_ S.dr k hk) a.drv.lift (Dj U) Ai x.off) (fun _ _ p=>p.2.2.2.1) ?_;rintro _ h2 h3 s' ⟨rfl,hlen,d2,_,bt⟩ sm c3 bu;have ad:=sm.hb bt;have bw:U8 (S.dr.read Ai x.off).2.1:=by
  obtain⟨V,M',qc,qh,cs,hs,ms,F',a'⟩:=d2.Mh;have w:=a'.dev.wf;have wz:∀i,i<(S.dr.begin Ai).dv.n->((S.dr.begin Ai).dv.zs i).Wf (S.dr.begin Ai).dv.size:=by
   have e1:(S.dr.read Ai x.off).1.dv=(S.dr.begin Ai).dv.begin Ai:=rfl;rw[e1]at w;unfold Dv.begin at w;split at w
   ·exact w.zs
   ·exact w.zs
  show U8 (Dv.read _ Ai x.off).1;unfold Dv.read;split
  ·exact U8.zs
  next bx=>
   obtain⟨j,rfl,hj⟩:=Dv.oy (show(S.dr.begin Ai).dv.D8 Ai=0 by
    rcases Decidable.em ((S.dr.begin Ai).dv.D8 Ai=0)with y|y
    ·exact y
    ·exact absurd y bx)
   unfold Ym;split
   ·exact U8.zs
   ·split
    next hc=>
     have:x.off.toNat<((S.dr.begin (j:Int)).dv.zs j).l.length:=by
      have:=hc.2;rw[bF]at this;omega
     rw[bF,aE this];exact(wz j hj).u8 _ (bA _)
    ·exact U8.zs
 obtain⟨M3,k3⟩:=M1.drv U a (d2.same sm) c3;have E:=k3.at U E F5;have C:=k3.at U C F8;obtain⟨hs,Y⟩:=bw.Brl;have O:(jW (S.dr.read Ai x.off).2.1).length=64:=by rw[A9z,hlen]
 unfold Mi.Cw;rw[<-hs];generalize hR:S.dr.read Ai x.off=R at M3 hs Y O⊢;obtain⟨dr,sec,er⟩:=R;simp only at M3 hs Y O⊢;rw[sj];generalize jW sec=s at hs Y O⊢;simp only[Aa,Au];rw[J1 (by rcases bu with rfl|⟨w,rfl,_⟩<;>kernel_rfl)];have ul:(Be s).length=64:=by rw[Az,O]
 refine Ok.st (Be s) (Ad _ _) rfl (by show Fp (Be s)=64;rw[Bb,ul]) (Bn (by rw[bO];exact ul.symm)) ?_;obtain⟨h4,e_,x4,ax,_⟩:=nP h3 (.cells (List.replicate 64 (EV.int .u8 0)) 32) (.cells (Be s) 32);rw[e_];have o:=x4.hb ad;have E:=x4.at ad E;have C:=x4.at ad C;have M4:=(M3.ext ad x4).less fun i (hi:Bi F h h1 i)=>Or.inl hi
 have ae:Kf F h h4:=(x1.nq k3).trans x4.kf;have ln:h.next+2<=h4.next:=by have:=x4.next;have:=k3.next;omega
 have sub:∀i,F i->Bi F h h1 i:=fun i hi=>.inl hi
 have fin:∀(l:List Nat) (ok:Bool) (er:Int) (u:Ab) (S5:Mi),l.length=32->(∀b∈l,b<256)->C0 u m S5 (Bi F h h1)->Kf F h u->HB u->u.get (h.next+1)=some (.cells (Be Di) 81) ->
  Ok (f_ 32 (.ptr (h.next+1) 0) (.agg (Be l)) u fun h'=>Iq TT [.c (.ptr (h.next+1) 0) 81,.v (.bool ok),.v (I er)] h') fun v h'=>v=.tuple [.agg (Be l),.bool ok,I er]/\l.length=32/\(∀b∈l,b<256)/\C0 h' m S5 F/\Kf F h h'/\HB h':=by
  intro l ok er u S5 hl b5 M5 k5 L af;have ul:(Be l).length=32:=by rw[Az,hl]
  have l8:=L _ _ af;refine Ok.st (Be l) af rfl (by show Fp (Be l)=32;rw[Bb,ul]) (Bn (by show(Be Di).length=(Be l).length;rw[ul,Az,my])) ?_;rw[uV (Ae _ _ _) jk.1 jk.2 ul];have nF:¬F (h.next+1):=fun y=>by have:=M.lt _ y;omega
  have c8:As (fun i=>i=h.next+1) u (u.put (h.next+1) (.cells (Be l) 81)):=(As.refl (S:=fun i=>i=h.next+1) u).Aq (.inl rfl) l8 _;exact .ret ⟨rfl,hl,b5,(M5.iC c8 fun i hi _=>hi▸F8).less sub,k5.trans (c8.mono fun i hi y=>nF (hi▸y)),L.put l8 _⟩
 have no:∀(er:Int) (u:Ab) (S5:Mi),C0 u m S5 (Bi F h h1)->Kf F h u->HB u->u.get (h.next+1)=some (.cells (Be Di) 81) ->
  Ok (Bt (Mg 1) (List.replicate 32 (EV.int .u8 0)) [] fun v=>f_ 32 (.ptr (h.next+1) 0) v u fun h'=>Iq TT [.c (.ptr (h.next+1) 0) 81,.v (.bool false),.v (I er)] h') fun v h'=>v=.tuple [.agg (Be Di),.bool false,I er]/\Di.length=32/\(∀b∈Di,b<256)/\C0 h' m S5 F/\Kf F h h'/\HB h':=fun er u S5 M5 k5 L af=>by
  rw[Fx,Ax (l:=Be Di) rfl];exact fin Di false er u S5 rfl (fun b hb=>by rw[bY hb];decide) M5 k5 L af
 simp only[I,Ac];by_cases h0:er=0
 ·rw[aK h0]
  simp only[h0,aB,Aa,Y8];have b6:=o _ _ ax;have b8:=o _ _ E;obtain⟨_,D,p,bl,ql,np,q,c,G,a⟩:=M4.s;have ca:=o _ _ a.Hp.Hp
  try simp only[Au]
  rw[Jg ca,a.Hp.table]
  try simp only[Aa,Au]
  rw[Jg b6,Cz ax rfl,Ak ul]
  try simp only[Aa,Au]
  rw[Jg b8,Al E rfl (v:=I x.off) rfl]
  try simp only[Aa,Au]
  refine Ok.bE (A6i (K:=K) O Y (Dj o) hK Ai x.off) (fun _ _ p=>p.2.2) ?_;rintro _ eb u ⟨rfl,fw,_⟩ _ x5;have gw:=Bh0 O Y x Ai Bj fw;have J:km s x Ai Bj=if(hD s Ai x.off).2=0/\¬(hD s Ai x.off).1.kind=2/\(hD s Ai x.off).1.seq=x.seq/\(Ux (hD s Ai x.off).1).2=0/\(Ux (hD s Ai x.off).1).1.Bj=Bj/\((E5 (Ux (hD s Ai x.off).1).1.bytes:Nat):Int)=x.sum
   then(true,(Ux (hD s Ai x.off).1).1.bytes)else(false,Di):=rfl
  generalize km s x Ai Bj=gd at J gw⊢;generalize hD s Ai x.off=Mh at fw J⊢;obtain⟨f,cb⟩:=Mh;simp only at fw J⊢;have L:=x5.hb o;have fl:=Fr.Bm fw;have zl:=Fr.Bm Fr.Gu;simp only[Aa,yE,Au];rw[J1];refine Ok.st f.cells (Ad _ _) rfl (by show Fp f.cells=49;rw[Bb,fl]) (Bn (by rw[zl];exact fl.symm)) ?_;obtain⟨h6,e_,x6,ag,_⟩:=nP u (.cells Fr.zero.cells 136) (.cells f.cells 136);rw[e_];have W:=x6.hb L;have ah:Ext h4 h6:=x5.trans x6;have E:=ah.at o E;have C:=ah.at o C;have M6:=(M4.ext o ah).less fun i (hi:Bi F h h1 i)=>Or.inl hi
  have a2:Kf F h h6:=ae.trans ah.kf;have stop:=no 0 h6 _ M6 a2 W C;have l0:f.cells[0]? = some (I f.kind):=rfl;have l4:f.cells[4]? = some (I f.seq):=rfl;simp only[I,Ac]at stop⊢;by_cases c1:cb=0
  ·by_cases c2:f.kind=2
   ·rw[aH (by rintro⟨_,y,_⟩;exact y c2)]at J;subst J
    simp only[c1,aC,aA,Aa,Cx ag rfl,l0,I,Ac,c2,aB,Ip,Ir];exact stop
   ·by_cases c3:f.seq=x.seq
    ·simp only[c1,aC,aA,Aa,Cx ag rfl,l0,I,Ac,c2,Ip,l4,Ir]
     rw[Al E rfl (v:=I x.seq) rfl];simp only[I,Ac,c3,aC,aA,Aa,Yu];rw[Cz ag rfl,Ak fl]
     try simp only[Aa]
     refine(A04 (K:=K) fw W hK).Ao ?_;rintro _ h7 ⟨rfl,T,x7⟩;generalize Ux f=re at T J⊢;obtain⟨e,cc⟩:=re;simp only at T J⊢;have cf:=x7.hb W;have el:=En.Bm T;have ch:=En.Bm En.Gu;simp only[Aa];rw[En.Hu];refine Ok.st e.cells (Ad _ _) rfl (by show Fp e.cells=38;rw[Bb,el]) (Bn (by rw[ch];exact el.symm)) ?_;obtain⟨h8,e_,x8,X,_⟩:=nP h7 (.cells En.zero.cells 151) (.cells e.cells 151);rw[e_];have B:=x8.hb cf;have ai:Ext h6 h8:=x7.trans x8;have E:=ai.at W E;have C:=ai.at W C;have M8:=(M6.ext W ai).less fun i (hi:Bi F h h1 i)=>Or.inl hi
     have a6:Kf F h h8:=a2.trans ai.kf;have stop:=no 0 h8 _ M8 a6 B C;have cp:=B _ _ X;have ct:=B _ _ E;simp only[I,Ac]at stop⊢;by_cases c4:cc=0
     ·simp only[c4,aC,aA,Aa,Au]
      rw[Jg cp,Al X rfl (v:=I e.Bj) rfl];simp only[I,Ac];by_cases c5:e.Bj=Bj
      ·simp only[c5,aC,aA,Iv,Aa,Au]
       obtain⟨_,D,p,bl,ql,np,q,c,G,a⟩:=M8.s;have cw:=B _ _ a.Hp.Hp;rw[Jg cw,a.Hp.table]
       try simp only[Aa,Au]
       rw[show ∀k:EV->R,Oz 32 1 (.ptr h7.next 6) none none none k=k (.slice h7.next 6 32 32 false)from fun k=>rfl]
       try simp only[Aa,Au]
       have bs:Bs h8.lift (.slice h7.next 6 32 32 false) h7.next 6 e.bytes:=by
        refine⟨32,false,_,e.cells,by rw[T.len],by rw[T.len];omega,by rw[Bx];exact X,rfl,by rw[el,T.len];exact aD _,?_⟩;unfold En.cells;rw[T.len];show(Be e.bytes).take 32=_;rw[bQ (by rw[Az,T.len];omega)]
       refine Ok.bE (uP (K:=K) hK bs (Dj B) T.u8 (by rw[T.len];omega)) (fun _ _ p=>p.2) ?_;rintro _ ed h9 ⟨rfl,_⟩ _ x9;have a7:=x9.hb B;have E:=x9.at B E;have C:=x9.at B C;have X:=x9.at B X;have M9:=(M8.ext B x9).less fun i (hi:Bi F h h1 i)=>Or.inl hi
       have ba:Kf F h h9:=a6.trans x9.kf;have stop:=no 0 h9 _ M9 ba a7 C;have O:=sA T.u8;simp only[Nk,Aa,Au];rw[show Cr .i64 (Int.ofNat (E5 e.bytes))=(E5 e.bytes:Int)from Cn (by show -9223372036854775808<=((E5 e.bytes:Nat):Int);omega) (by show((E5 e.bytes:Nat):Int)<=_;omega)];rw[Jg ct,Al E rfl (v:=I x.sum) rfl];simp only[I,Ac]at stop⊢;by_cases c6:((E5 e.bytes:Nat):Int)=x.sum
       ·rw[aK ⟨c1,c2,c3,c4,c5,c6⟩]at J;subst J
        simp only[c6,aC,aA,Gq,Aa,Y0];rw[Cz X rfl,show Ly e.cells (0+6) 32=some (Be e.bytes)from by
         rw[Eg (by rw[el];omega)];show some ((Be e.bytes).take 32)=_;rw[bQ (by rw[Az,T.len];omega)]]
        try simp only[Aa]
        exact fin e.bytes true 0 h9 _ T.len T.u8 M9 ba a7 C
       ·rw[aH (by rintro⟨_,_,_,_,_,y⟩;exact c6 y)]at J;subst J
        simp only[c6,aG,aB,Gq,Aa];exact stop
      ·rw[aH (by rintro⟨_,_,_,_,y,_⟩;exact c5 y)]at J;subst J
       simp only[c5,aG,aB,Iv,Aa,Gq];exact stop
     ·rw[aH (by rintro⟨_,_,_,y,_⟩;exact c4 y)]at J;subst J
      simp only[c4,aG,aB,Iv,Aa,Gq];exact stop
    ·rw[aH (by rintro⟨_,_,y,_⟩;exact c3 y)]at J;subst J
     simp only[c1,aC,aA,Aa,Cx ag rfl,l0,I,Ac,c2,Ip,l4,Ir];rw[Al E rfl (v:=I x.seq) rfl];simp only[I,Ac,c3,aG,aB,Aa];exact stop
  ·rw[aH (by rintro⟨y,_⟩;exact c1 y)]at J;subst J
   simp only[c1,aG,aB,Aa,Ip,Ir];exact stop
 ·rw[aH h0]
  simp only[h0,aA,Aa,Ac];by_cases aj:er=34
  ·rw[aK aj]
   simp only[aj,aB,Aa];exact no 34 h4 _ M4 ae o C
  ·rw[aH aj]
   simp only[aj,aA,Aa,Ac];by_cases al:er=32
   ·rw[aK al]
    simp only[al,aB,Aa];rw[Ax (l:=Be Di) rfl];refine(Bji A hK a_ M4 o hz).Ao ?_;rintro _ u ⟨rfl,M5,k5,L⟩;have C:=k5.at o C F8;have cG:Kf F h4 u:=k5.less sub;exact fin Di false _ u _ rfl (fun b hb=>by rw[bY hb];decide) M5 (ae.trans cG) L C
   ·rw[aH al]
    simp only[al,aA,Aa];exact no 0 h4 _ M4 ae o C
section
def mj(g:Gm)(x:Me):Bool:=decide (x.state=1)&&meB g x
theorem SF(M:C0 h m S F)(hb:HB h){x:Me}(E:Vp x.Ai)(hm:Vp x.Bj):
 Ok (Kr K (.ptr m 0) (.agg x.cells) h) fun v h'=>v=.bool (mj S.g x)/\Ext h h':=by
 simp only[Kr,Aa];obtain⟨T,J,u,B,_⟩:=nW h (.cells x.cells 87);rw[J];have o:=u.hb hb;obtain⟨_,D,p,bl,ql,np,q,c,G,a⟩:=M.s.ext hb u;have C:=o _ _ B;have lm:=o _ _ a.Hp.Hp;rw[Jg C,Al B rfl (v:=I x.state) rfl];simp only[I,Ac];unfold mj;by_cases h0:x.state=1
 ·simp only[h0,aB,Aa,Au,bG]
  rw[Jg C,Cz B rfl,Ak (n:=6) rfl]
  try simp only[Aa,Au]
  rw[Jg lm,a.Hp.ov]
  try simp only[Aa,Au]
  refine Ok.bE (yK (K:=K) (Dj o) h0 E hm) (fun _ _ p=>p.2) ?_;rintro _ L h2 ⟨rfl,_⟩ _ O;simp only[Kx,Aa];exact .ret ⟨rfl,u.trans O⟩
 ·simp only[h0,aA,Aa,Au,a8,Kx]
  exact .ret ⟨rfl,u⟩
section
variable (A:Cf disp)(hK:10000<K)(hd:20<=d)(M:C0 h m S F)(hb:HB h)(x:Me)
include A hK hd M hb
theorem SG {ih:EV->EV->EV->EV->EV->Ab->R}{o:EV}{z:Int}(hz:Vp z)(X:∀k:EV->R,jX 2 2 true 2 o (.int .i64 (i:Int)) k=k (.agg [I z,I mt]))(f3:F b3)(f4:F b4)
 (g3:h.get b3=some (.cells x.cells 87)) (U:h.get b4=some (.cells (Be Di) 81))
 (u:(S.Cw x z mt).2.2.1=true\/¬(S.Cw x z mt).2.2.2=0->∀h',C0 h' m (S.Cw x z mt).1 F->Kf (fun i=>F i/\¬i=b4) h h'->HB h'->((S.Cw x z mt).2.1.length=32/\∀b∈(S.Cw x z mt).2.1,b<256)->Q (.tuple [.agg (Be (S.Cw x z mt).2.1),I (S.Cw x z mt).2.2.2]) h')
 (B:¬((S.Cw x z mt).2.2.1=true\/¬(S.Cw x z mt).2.2.2=0)->∀h',C0 h' m (S.Cw x z mt).1 F->Kf F h h'->HB h'->Ok (L7 (Ag TT disp K d false) (Ag TT disp K d true) K ih (.ptr m 0) (.ptr b3 0) (.ptr b4 0) o (.int .i64 (i:Int)) h') Q) :
 Ok (Q3 (Ag TT disp K d false) (Ag TT disp K d true) K ih (.ptr m 0) (.ptr b3 0) (.ptr b4 0) o (.int .i64 (i:Int)) h) Q:=by
 simp only[Q3,X,Aa];refine Ok.st [I z,I mt] (Ad _ _) rfl rfl rfl ?_;obtain⟨h1,Y,W,g7,_⟩:=nP h (.cells [EV.int .i64 0,.int .i64 0] 189) (.cells [I z,I mt] 189);rw[Y];have aa:=W.hb hb;have M1:=M.ext hb W;have sub:∀i,F i->Bi F h h1 i:=fun i hi=>.inl hi
 rw[Cz (W.at hb g3) rfl,Ak (n:=6) rfl]
 try simp only[Aa]
 rw[show ∀k:EV->R,jP 2 1 (.ptr h.next 0) (.int .i64 0) k=k (.ptr h.next 0)from fun k=>rfl,Al g7 rfl (v:=I z) rfl];rw[show ∀k:EV->R,jP 2 1 (.ptr h.next 0) (.int .i64 1) k=k (.ptr h.next 1)from fun k=>rfl,Al g7 rfl (v:=I mt) rfl];refine(SE A hK hd M1 aa x hz mt).Ao ?_;rintro _ h2 ⟨rfl,bl,bu,M2,k2,O⟩;have ae:Kf F h h2:=W.nq k2;generalize S.Cw x z mt=C at u B bl bu M2⊢;obtain⟨T,l,ok,er⟩:=C;simp only at u B bl bu M2⊢;have ul:(Be l).length=32:=by rw[Az,bl]
 simp only[Aa,Fx];refine Ok.st (Be l) (Ad _ _) rfl (by show Fp (Be l)=32;rw[Bb,ul]) (Bn (by show(Be Di).length=(Be l).length;rw[ul,Az,my])) ?_;obtain⟨E,Y,x3,g8,_⟩:=nP h2 (.cells (Be Di) 81) (.cells (Be l) 81);rw[Y];have J:=x3.hb O;have M3:=(M2.ext O x3).less fun i (hi:F i)=>Or.inl (sub i hi)
 have L:Kf F h E:=ae.trans x3.kf;have U:=L.at hb U f4;have l4:=J _ _ U;have stop:(ok=true\/¬er=0)->Ok (Q4 32 (.ptr h2.next 0) E fun ag=>f_ 32 (.ptr b4 0) ag E fun h=>Iq TT [.c (.ptr b4 0) 81,.v (I er)] h) Q:=fun hc=>by
  rw[Cz g8 rfl,Ak ul]
  try simp only[Aa]
  refine Ok.st (Be l) U rfl (by show Fp (Be l)=32;rw[Bb,ul]) (Bn (by show(Be Di).length=(Be l).length;rw[ul,Az,my])) ?_;rw[Fi (Ae _ _ _) jk.1 jk.2 ul];have c8:As (fun i=>i=b4) E (E.put b4 (.cells (Be l) 81)):=(As.refl (S:=fun i=>i=b4) E).Aq (.inl rfl) l4 _;exact .ret (u hc _ (M3.iC c8 fun i hi _=>hi▸f4) ((L.less fun i hi=>hi.1).trans (c8.mono fun i hi y=>y.2 hi)) (J.put l4 _) ⟨bl,bu⟩)
 simp only[I,Ac]at stop⊢;cases ok with
 | true=>
  simp only[Aa,Ac,Qy];exact stop (.inl rfl)
 | false=>
  simp only[Aa,Ac,Qy];by_cases h0:er=0
  ·simp only[h0,aC,aA,Aa]
   exact B (by rw[h0];simp) E M3 L J
  ·simp only[h0,aG,aB,Aa]
   exact stop (.inr h0)
end
def Mi.read(S:Mi)(x:Me):Mi × List Nat × Int:=
 if mj S.g x=false then(S,Di,10)else
 if(S.Cw x x.Ai x.Bj).2.2.1=true\/¬(S.Cw x x.Ai x.Bj).2.2.2=0 then((S.Cw x x.Ai x.Bj).1,(S.Cw x x.Ai x.Bj).2.1,(S.Cw x x.Ai x.Bj).2.2.2)else
 if((S.Cw x x.Ai x.Bj).1.Cw x x.Bj x.Ai).2.2.1=true\/¬((S.Cw x x.Ai x.Bj).1.Cw x x.Bj x.Ai).2.2.2=0 then(((S.Cw x x.Ai x.Bj).1.Cw x x.Bj x.Ai).1,((S.Cw x x.Ai x.Bj).1.Cw x x.Bj x.Ai).2.1,((S.Cw x x.Ai x.Bj).1.Cw x x.Bj x.Ai).2.2.2)else
 (((S.Cw x x.Ai x.Bj).1.Cw x x.Bj x.Ai).1,Di,41)
theorem YC(A:Cf disp)(hK:10000<K)(hd:21<=d)(M:C0 h m S F)(hb:HB h){x:Me}(hz:Vp x.Ai)(hm:Vp x.Bj):
 Ok (Ag TT disp K d false 121 [.ptr m 0,.agg x.cells] h) fun v h'=>v=.tuple [.agg (Be (S.read x).2.1),I (S.read x).2.2]/\((S.read x).2.1.length=32/\∀b∈(S.read x).2.1,b<256)/\C0 h' m (S.read x).1 F/\Kf F h h'/\HB h':=by
 obtain⟨dd,rfl⟩:=fc d;rw[Ak7 A a_];simp only[J_,Aa];rw[show(h.new (.cells x.cells 87)).next=h.next+1 from rfl,Fx];have x1:Ext h ((h.new (.cells x.cells 87)).new (.cells (Be Di) 81)):=(As.new _ _).Dn _;have B:((h.new (.cells x.cells 87)).new (.cells (Be Di) 81)).get h.next=some (.cells x.cells 87):=by
  rw[Ba _ (aT _)];exact Ad _ _
 have E:((h.new (.cells x.cells 87)).new (.cells (Be Di) 81)).get (h.next+1)=some (.cells (Be Di) 81):=Ad _ _;have n1:((h.new (.cells x.cells 87)).new (.cells (Be Di) 81)).next=h.next+2:=rfl
 generalize (h.new (.cells x.cells 87)).new (.cells (Be Di) 81)=h1 at x1 B E n1⊢;have J:=x1.hb hb;have M1:=M.ext hb x1;rw[Cz B rfl,Ak (n:=6) rfl]
 try simp only[Aa]
 refine(SF (K:=K) M1 J hz hm).Ao ?_;rintro _ h2 ⟨rfl,W⟩;have u:=W.hb J;have X:Ext h h2:=x1.trans W;have M2:=M.ext hb X;have B:=W.at J B;have E:=W.at J E;have ln:=W.next
 have f3:Bi F h h2 h.next:=.inr ⟨aD _,a_⟩
 have f4:Bi F h h2 (h.next+1):=.inr ⟨a_,a_⟩;have sub:∀i,F i->Bi F h h2 i:=fun i hi=>.inl hi
 have back:∀h',Kf (fun i=>Bi F h h2 i/\¬i=h.next+1) h2 h'->Kf F h h':=fun h' k=>
  As.then (S:=fun i=>¬F i) (Ext.to X) k fun i y hl z=>y ⟨.inl z,fun y=>by have:=M.lt i z;omega⟩
 have fin:∀(C:Ab) (T:Mi) (er:Int),C0 C m T (Bi F h h2)->Kf (Bi F h h2) h2 C->HB C ->
  Ok (Bt (Mg 1) (Be Di) [] fun v=>f_ 32 (.ptr (h.next+1) 0) v C fun h'=>Iq TT [.c (.ptr (h.next+1) 0) 81,.v (I er)] h') fun v h'=>v=.tuple [.agg (Be Di),I er]/\(Di.length=32/\∀b∈Di,b<256)/\C0 h' m T F/\Kf F h h'/\HB h':=by
  intro C T er Y L o;have E:=L.at u E f4;have l4:=o _ _ E;rw[Ax (l:=Be Di) rfl];refine Ok.st (Be Di) E rfl rfl (Bn rfl) ?_;rw[Fi (Ae _ _ _) jk.1 jk.2 rfl];have c8:As (fun i=>i=h.next+1) C (C.put (h.next+1) (.cells (Be Di) 81)):=(As.refl (S:=fun i=>i=h.next+1) C).Aq (.inl rfl) l4 _;exact .ret ⟨rfl,⟨rfl,fun b hb=>by rw[bY hb];decide⟩,(Y.iC c8 fun i hi _=>hi▸f4).less sub,back _ ((L.less fun i hi=>hi.1).trans (c8.mono fun i hi y=>y.2 hi)),o.put l4 _⟩
 unfold Mi.read;cases hl:mj S.g x with
 | false=>
  simp only[Aa,bN];exact fin h2 S 10 M2 (As.refl _) u
 | true=>
  rw[aH (by simp)];simp only[Aa,Yv];rw[Al B rfl (v:=I x.Ai) rfl]
  try simp only[Aa]
  rw[Al B rfl (v:=I x.Bj) rfl,Ax (l:=[I x.Ai,I x.Bj]) rfl]
  try simp only[Aa]
  rw[Al B rfl (v:=I x.Bj) rfl]
  try simp only[Aa]
  rw[Al B rfl (v:=I x.Ai) rfl,Ax (l:=[I x.Bj,I x.Ai]) rfl,Ax (l:=[I x.Ai,I x.Bj,I x.Bj,I x.Ai]) rfl];obtain⟨k,rfl⟩:∃k,K=k+3:=⟨K-3,a_⟩;rw[show Df (Ag TT disp (k+3) dd false) (Ag TT disp (k+3) dd true) (k+3) (k+3)=Df (Ag TT disp (k+3) dd false) (Ag TT disp (k+3) dd true) (k+3) (k+2+1)from rfl];rw[Df];simp only[Ac,show decide ((0:Int)<2)=true from rfl,Aa];refine SG A hK a_ M2 u x (i:=0) hz (fun k=>rfl) f3 f4 B E ?_ ?_
  ·intro O C Y L o bl
   rw[aK O];exact⟨rfl,bl,Y.less sub,back _ L,o⟩
  ·intro O C Y L o
   rw[aH O];simp only[L7,Ac];rw[show Cr .i64 (((0:Nat):Int)+1)=((1:Nat):Int)from rfl];rw[show Df (Ag TT disp (k+3) dd false) (Ag TT disp (k+3) dd true) (k+3) (k+2)=Df (Ag TT disp (k+3) dd false) (Ag TT disp (k+3) dd true) (k+3) (k+1+1)from rfl];rw[Df];simp only[Ac,show decide (((1:Nat):Int)<2)=true from rfl,Aa];have ad:=L.at u B f3;have ae:=L.at u E f4;refine SG A hK a_ Y o x (i:=1) hm (fun k=>rfl) f3 f4 ad ae ?_ ?_
   ·intro O h4 M4 k4 U bl
    rw[aK O];exact⟨rfl,bl,M4.less sub,back _ ((L.less fun i hi=>hi.1).trans k4),U⟩
   ·intro O h4 M4 k4 U
    rw[aH O];simp only[L7,Ac];rw[show Cr .i64 (((1:Nat):Int)+1)=((2:Nat):Int)from rfl];rw[Df];simp only[Ac,show decide (((2:Nat):Int)<2)=false from rfl,Aa,Y3,Fx];exact fin h4 _ 41 M4 (L.trans k4) U
section
variable (A:Cf disp)(hK:10000<K)(hd:20<=d){b7:Nat}(M:C0 h m S F)(hb:HB h)(x:Me)
include A hK hd M hb
theorem SH{v30:EV}{z:Int}{l0:List Nat}{gd:Nat}(hn:n<=10)(bk:gd<=10)(W:l0.length=32)(hz:Vp z)(ao:∀k:EV->R,jX 2 2 true 2 v30 (.int .i64 (i:Int)) k=k (.agg [I z,I mt]))(f3:F b3)(f4:F b4)(f7:F b7)(bn:b4≠b7)
 (g3:h.get b3=some (.cells x.cells 87)) (g4:h.get b4=some (.cells (Be Di) 81)) (X:h.get b7=some (.cells (Be l0) 81))
 (O:¬(S.Cw x z mt).2.2.2=0->∀h',C0 h' m (S.Cw x z mt).1 F->Kf (fun i=>F i/\¬i=b4/\¬i=b7) h h'->HB h'->Q (.tuple [.agg (Be Di),I 0,I (S.Cw x z mt).2.2.2]) h')
 (u:(S.Cw x z mt).2.2.2=0->∀h',C0 h' m (S.Cw x z mt).1 F->Kf (fun i=>F i/\¬i=b7) h h'->HB h'->(if(S.Cw x z mt).2.2.1=true then(S.Cw x z mt).2.1 else l0).length=32 ->
  h'.get b7=some (.cells (Be (if(S.Cw x z mt).2.2.1=true then(S.Cw x z mt).2.1 else l0)) 81) ->
  Ok (H2 (Ag TT disp K d false) (Ag TT disp K d true) K ih (.ptr m 0) (.ptr b3 0) (.ptr b4 0) (.ptr b7 0) (I ((if(S.Cw x z mt).2.2.1=true/\(S.Cw x z mt).1.It z=false then n+1 else n:Nat):Int)) (I ((if(S.Cw x z mt).2.2.1=true then gd+1 else gd:Nat):Int)) v30 (.int .i64 (i:Int)) h') Q) :
 Ok (Pf (Ag TT disp K d false) (Ag TT disp K d true) K ih (.ptr m 0) (.ptr b3 0) (.ptr b4 0) (.ptr b7 0) (I (n:Int)) (I (gd:Int)) v30 (.int .i64 (i:Int)) h) Q:=by
 simp only[Pf,ao,Aa];refine Ok.st [I z,I mt] (Ad _ _) rfl rfl rfl ?_;obtain⟨h1,e_,x1,o,n1⟩:=nP h (.cells [EV.int .i64 0,.int .i64 0] 189) (.cells [I z,I mt] 189);rw[e_];have Y:=x1.hb hb;have M1:=M.ext hb x1;have au:Bi F h h1 h.next:=.inr ⟨aD _,a_⟩
 have sub:∀i,F i->Bi F h h1 i:=fun i hi=>.inl hi
 rw[Cz (x1.at hb g3) rfl,Ak (n:=6) rfl]
 try simp only[Aa]
 rw[show ∀k:EV->R,jP 2 1 (.ptr h.next 0) (.int .i64 0) k=k (.ptr h.next 0)from fun k=>rfl,Al o rfl (v:=I z) rfl];rw[show ∀k:EV->R,jP 2 1 (.ptr h.next 0) (.int .i64 1) k=k (.ptr h.next 1)from fun k=>rfl,Al o rfl (v:=I mt) rfl];refine(SE A hK hd M1 Y x hz mt).Ao ?_;rintro _ h2 ⟨rfl,bl,bu,M2,k2,U⟩;have aw:Kf F h h2:=x1.nq k2;have o:=k2.at Y o au;generalize S.Cw x z mt=C at O u bl bu M2⊢;obtain⟨T,l,ok,er⟩:=C;simp only at O u bl bu M2⊢;have ul:(Be l).length=32:=by rw[Az,bl]
 have ax:(Be l0).length=32:=by rw[Az,W]
 simp only[Aa,Fx];refine Ok.st (Be l) (Ad _ _) rfl (by show Fp (Be l)=32;rw[Bb,ul]) (Bn (by show(Be Di).length=(Be l).length;rw[ul,Az,my])) ?_;obtain⟨B,e_,x3,ay,_⟩:=nP h2 (.cells (Be Di) 81) (.cells (Be l) 81);rw[e_];have E:=x3.hb U;have o:=x3.at U o;have aa:=(M2.ext U x3).less fun i (hi:Bi F h h1 i)=>Or.inl hi
 have M3:=aa.less sub;have J:Kf F h B:=aw.trans x3.kf;have g4:=J.at hb g4 f4;have X:=J.at hb X f7;have l4:=E _ _ g4;have l7:=E _ _ X;simp only[I,Ac];by_cases h0:er=0
 ·simp only[h0,aC,aA,Aa,Xs]
  have u:=u h0;cases ok with
  | false=>
   simp only[Aa];have:=u B M3 (J.less fun i hi=>hi.1) E (by simp[W]) (by simpa using X);simpa [I]using this
  | true=>
   simp only[Aa,Xz];rw[Cz ay rfl,Ak ul]
   try simp only[Aa]
   refine Ok.st (Be l) X rfl (by show Fp (Be l)=32;rw[Bb,ul]) (Bn (by show(Be l0).length=(Be l).length;rw[ul,ax])) ?_;have c7:As (fun i=>i=b7) B (B.put b7 (.cells (Be l) 81)):=(As.refl (S:=fun i=>i=b7) B).Aq (.inl rfl) l7 _;have M4:=aa.iC c7 fun i hi _=>by
    have hi:i=b7:=hi;subst hi;exact sub _ f7
   have ad:(B.put b7 (.cells (Be l) 81)).get b7=some (.cells (Be l) 81):=Ae _ _ _;have o:(B.put b7 (.cells (Be l) 81)).get h.next=some (.cells [I z,I mt] 189):=by
    rw[Af _ (fun y=>by have:=M.lt _ f7;omega)];exact o
   have ae:Kf (fun i=>F i/\¬i=b7) h (B.put b7 (.cells (Be l) 81)):=(J.less fun i hi=>hi.1).trans (c7.mono fun i hi y=>y.2 hi);have L:HB (B.put b7 (.cells (Be l) 81)):=E.put l7 _;generalize B.put b7 (.cells (Be l) 81)=h4 at M4 ad o ae L⊢;simp only[I,Ac];rw[Cn (n:=(gd:Int)+1),Cn (n:=(n:Int)+1)];rw[show ∀k:EV->R,jP 2 1 (.ptr h.next 0) (.int .i64 0) k=k (.ptr h.next 0)from fun k=>rfl,Al o rfl (v:=I z) rfl];refine(N8 (K:=K) M4.s L hz).Ao ?_;rintro _ h5 ⟨rfl,x5⟩;have a1:=x5.hb L;have M5:=(M4.ext L x5).less fun i (hi:Bi F h h1 i)=>Or.inl hi
   have this:=u h5 (M5.less sub) (ae.trans x5.kf) a1 (by simpa using bl) (by simpa using x5.at L ad);cases af:T.It z with
   | true=>
    simp only[Aa];simpa [I,af]using this
   | false=>
    simp only[Aa,Ac];simpa [I,af]using this
 ·simp only[h0,aG,aB,Aa]
  rw[Ax (l:=Be Di) rfl];refine Ok.st (Be Di) g4 rfl rfl (Bn rfl) ?_;rw[uV (Ae _ _ _) jk.1 jk.2 rfl];have c8:As (fun i=>i=b4) B (B.put b4 (.cells (Be Di) 81)):=(As.refl (S:=fun i=>i=b4) B).Aq (.inl rfl) l4 _;exact .ret (O h0 _ (M3.iC c8 fun i hi _=>hi▸f4) ((J.less fun i hi=>hi.1).trans (c8.mono fun i hi y=>y.2.1 hi)) (E.put l4 _))
end
def Mi.pW(x:Me)(C D:Mi × List Nat × Bool × Int):Mi × List Nat × Int × Int:=
 if ¬D.2.2.2=0 then(D.1,Di,0,D.2.2.2)else
 if C.2.2.1=false/\D.2.2.1=false then(D.1,Di,0,41)else
 (D.1,if D.2.2.1=true then D.2.1 else C.2.1,(if C.2.2.1=true/\C.1.It x.Ai=false then 1 else 0)+(if D.2.2.1=true/\D.1.It x.Bj=false then 1 else 0),0)
def Mi.check(S:Mi)(x:Me):Mi × List Nat × Int × Int:=
 if mj S.g x=false then(S,Di,0,10)else
 if ¬(S.Cw x x.Ai x.Bj).2.2.2=0 then((S.Cw x x.Ai x.Bj).1,Di,0,(S.Cw x x.Ai x.Bj).2.2.2)else
 Mi.pW x (S.Cw x x.Ai x.Bj) ((S.Cw x x.Ai x.Bj).1.Cw x x.Bj x.Ai)
theorem Y_(A:Cf disp)(hK:10000<K)(hd:21<=d)(M:C0 h m S F)(hb:HB h){x:Me}(hz:Vp x.Ai)(hm:Vp x.Bj):
 Ok (Ag TT disp K d false 71 [.ptr m 0,.agg x.cells] h) fun v h'=>v=.tuple [.agg (Be (S.check x).2.1),I (S.check x).2.2.1,I (S.check x).2.2.2]/\(S.check x).2.1.length=32/\C0 h' m (S.check x).1 F/\Kf F h h'/\HB h':=by
 obtain⟨dd,rfl⟩:=fc d;rw[Aj0 A a_];simp only[KR,Aa];rw[show(h.new (.cells x.cells 87)).next=h.next+1 from rfl,Fx];have x1:Ext h ((h.new (.cells x.cells 87)).new (.cells (Be Di) 81)):=(As.new _ _).Dn _;have B:((h.new (.cells x.cells 87)).new (.cells (Be Di) 81)).get h.next=some (.cells x.cells 87):=by
  rw[Ba _ (aT _)];exact Ad _ _
 have O:((h.new (.cells x.cells 87)).new (.cells (Be Di) 81)).get (h.next+1)=some (.cells (Be Di) 81):=Ad _ _;have n1:((h.new (.cells x.cells 87)).new (.cells (Be Di) 81)).next=h.next+2:=rfl
 generalize (h.new (.cells x.cells 87)).new (.cells (Be Di) 81)=h1 at x1 B O n1⊢;have T:=x1.hb hb;have M1:=M.ext hb x1;rw[Cz B rfl,Ak (n:=6) rfl]
 try simp only[Aa]
 refine(SF (K:=K) M1 T hz hm).Ao ?_;rintro _ h2 ⟨rfl,x2⟩;have E:=x2.hb T;have aa:Ext h h2:=x1.trans x2;have M2:=M.ext hb aa;have B:=x2.at T B;have O:=x2.at T O;have ln:=x2.next
 have bo:Bi F h h2 (h.next+1):=.inr ⟨a_,a_⟩;have l4:=E _ _ O;unfold Mi.check;cases hl:mj S.g x with
 | false=>
  simp only[Aa,bN];rw[Ax (l:=Be Di) rfl];refine Ok.st (Be Di) O rfl rfl (Bn rfl) ?_;rw[uV (Ae _ _ _) jk.1 jk.2 rfl];have x3:Ext h (h2.put (h.next+1) (.cells (Be Di) 81)):=aa.Aq (.inr a_) l4 _;exact .ret ⟨rfl,rfl,(M.ext hb x3).less fun i (hi:F i)=>Or.inl hi,x3.kf,E.put l4 _⟩
 | true=>
  rw[aH (by simp)];simp only[Aa,Wy,Fx];obtain⟨U,e_,x3,g7,n3⟩:=nW h2 (.cells (Be Di) 81);rw[e_];have ae:=x3.hb E;have aj:Ext h U:=aa.trans x3;have M3:=M.ext hb aj;have B:=x3.at E B;have O:=x3.at E O;have f3:Bi F h U h.next:=.inr ⟨aD _,a_⟩
  have f4:Bi F h U (h.next+1):=.inr ⟨a_,a_⟩;have f7:Bi F h U h2.next:=.inr ⟨a_,a_⟩
  have W:h.next+1≠h2.next:=a_
  have sub:∀i,F i->Bi F h U i:=fun i hi=>.inl hi
  have back:∀h',Kf (fun i=>Bi F h U i/\¬i=h.next+1/\¬i=h2.next) U h'->Kf F h h':=fun h' k=>
   As.then (S:=fun i=>¬F i) (Ext.to aj) k fun i y hl z=>y ⟨.inl z,fun y=>by have:=M.lt i z;omega,fun y=>by have:=M.lt i z;omega⟩
  rw[Al B rfl (v:=I x.Ai) rfl]
  try simp only[Aa]
  rw[Al B rfl (v:=I x.Bj) rfl,Ax (l:=[I x.Ai,I x.Bj]) rfl]
  try simp only[Aa]
  rw[Al B rfl (v:=I x.Bj) rfl]
  try simp only[Aa]
  rw[Al B rfl (v:=I x.Ai) rfl,Ax (l:=[I x.Bj,I x.Ai]) rfl,Ax (l:=[I x.Ai,I x.Bj,I x.Bj,I x.Ai]) rfl];obtain⟨k,rfl⟩:∃k,K=k+3:=⟨K-3,a_⟩;rw[show C7 (Ag TT disp (k+3) dd false) (Ag TT disp (k+3) dd true) (k+3) (k+3)=C7 (Ag TT disp (k+3) dd false) (Ag TT disp (k+3) dd true) (k+3) (k+2+1)from rfl];rw[C7];simp only[Ac,show decide ((0:Int)<2)=true from rfl,Aa];refine SH A hK a_ M3 ae x (i:=0) (n:=0) (gd:=0) (l0:=Di) a_ a_ rfl hz (fun k=>rfl) f3 f4 f7 W B O g7 ?_ ?_
  ·intro hc h4 M4 k4 X
   rw[aK hc];exact⟨rfl,rfl,M4.less sub,back _ k4,X⟩
  ·intro hc h4 M4 k4 X J al
   rw[aH (show ¬¬(S.Cw x x.Ai x.Bj).2.2.2=0 from fun y=>y hc)];have a2:=k4.at ae B ⟨f3,a_⟩;have ao:=k4.at ae O ⟨f4,W⟩;generalize S.Cw x x.Ai x.Bj=C at M4 J al⊢;simp only[H2,Ac];rw[show Cr .i64 (((0:Nat):Int)+1)=((1:Nat):Int)from rfl];rw[show C7 (Ag TT disp (k+3) dd false) (Ag TT disp (k+3) dd true) (k+3) (k+2)=C7 (Ag TT disp (k+3) dd false) (Ag TT disp (k+3) dd true) (k+3) (k+1+1)from rfl];rw[C7];simp only[Ac,show decide (((1:Nat):Int)<2)=true from rfl,Aa];have a5:(if C.2.2.1=true/\C.1.It x.Ai=false then 0+1 else 0)<=10:=by split<;>omega
   have a6:(if C.2.2.1=true then 0+1 else 0)<=10:=by split<;>omega
   refine SH A hK a_ M4 X x (i:=1) a5 a6 J hm (fun k=>rfl) f3 f4 f7 W a2 ao al ?_ ?_
   ·intro hc h5 M5 k5 Y
    unfold Mi.pW;rw[aK hc];exact⟨rfl,rfl,M5.less sub,back _ ((k4.less fun i hi=>⟨hi.1,hi.2.2⟩).trans k5),Y⟩
   ·intro hc h5 M5 k5 Y o u
    unfold Mi.pW;rw[aH (show ¬¬(C.1.Cw x x.Bj x.Ai).2.2.2=0 from fun y=>y hc)];have aq:=k5.at X ao ⟨f4,W⟩;have au:=Y _ _ aq;generalize C.1.Cw x x.Bj x.Ai=D at M5 o u⊢;simp only[H2,Ac];rw[show Cr .i64 (((1:Nat):Int)+1)=((2:Nat):Int)from rfl];rw[C7];simp only[Ac,show decide (((2:Nat):Int)<2)=false from rfl,Aa,X1,I];have a7:Kf (fun i=>Bi F h U i/\¬i=h.next+1/\¬i=h2.next) U h5:=(k4.less fun i hi=>⟨hi.1,hi.2.2⟩).trans (k5.less fun i hi=>⟨hi.1,hi.2.2⟩);have fin:∀(l:List Nat) (n er:Int),l.length=32->Ok (f_ 32 (.ptr (h.next+1) 0) (.agg (Be l)) h5 fun h'=>Iq TT [.c (.ptr (h.next+1) 0) 81,.v (I n),.v (I er)] h') fun v h'=>v=.tuple [.agg (Be l),I n,I er]/\l.length=32/\C0 h' m D.1 F/\Kf F h h'/\HB h':=by
     intro l n er hl;have ul:(Be l).length=32:=by rw[Az,hl]
     refine Ok.st (Be l) aq rfl (by show Fp (Be l)=32;rw[Bb,ul]) (Bn (by show(Be Di).length=(Be l).length;rw[ul,Az,my])) ?_;rw[uV (Ae _ _ _) jk.1 jk.2 ul];have c8:As (fun i=>i=h.next+1) h5 (h5.put (h.next+1) (.cells (Be l) 81)):=(As.refl (S:=fun i=>i=h.next+1) h5).Aq (.inl rfl) au _;exact .ret ⟨rfl,hl,(M5.iC c8 fun i hi _=>hi▸f4).less sub,back _ (a7.trans (c8.mono fun i hi y=>y.2.1 hi)),Y.put au _⟩
    cases c1:C.2.2.1 with
    | false=>
     rw[c1]at o u;cases c2:D.2.2.1 with
     | false=>
      simp only[aV,gI,ak,and_self,bN,show((0:Nat):Int)=0 from rfl,aB,Aa,Fx];rw[Ax (l:=Be Di) rfl];exact fin Di 0 41 rfl
     | true=>
      rw[c2]at o u;simp only[bN]at o u;simp only[aV,gI,ak,gA,and_false,gF,bN,Aa,K5,show decide (((0+1:Nat):Int)=0)=false from rfl];rw[Cz u rfl,Ak (by rw[Az,o])];simp only[Aa];have:=fin D.2.1 ((if D.1.It x.Bj=false then 0+1 else 0:Nat):Int) 0 o;simp only[I]at this;cases L:D.1.It x.Bj<;>simpa [L]using this
    | true=>
     rw[c1]at J o u;simp only[bN]at J;cases c2:D.2.2.1 with
     | false=>
      rw[c2]at o u;simp only[bN,aV,ak]at o u;simp only[gA,gI,ak,gF,bN,aV,Aa,K5,show decide (((0+1:Nat):Int)=0)=false from rfl];rw[Cz u rfl,Ak (by rw[Az,o])];simp only[Aa];have:=fin C.2.1 ((if C.1.It x.Ai=false then 0+1 else 0:Nat):Int) 0 J;simp only[I]at this;cases L:C.1.It x.Ai<;>simpa [L]using this
     | true=>
      rw[c2]at o u;simp only[bN]at o u;simp only[gA,gI,ak,gF,bN,Aa,K5,show decide (((0+1+1:Nat):Int)=0)=false from rfl];rw[Cz u rfl,Ak (by rw[Az,o])];simp only[Aa];have:=fin D.2.1 (((if C.1.It x.Ai=false then 1 else 0)+(if D.1.It x.Bj=false then 1 else 0):Nat):Int) 0 o;simp only[I]at this;cases ba:C.1.It x.Ai<;>cases L:D.1.It x.Bj<;>simpa [ba,L]using this
end
def Jp.new(n size:Nat)(op:Int):Jp:=⟨⟨n,size,op,0,false,fun _=>Zn.empty⟩,[],[]⟩
def Mi.new(g:Gm):Mi:=⟨g,Jp.new (g.D*g.Z).toNat g.S.toNat g.O,fun _=>[],fun _=>0,-1,-1,0⟩
theorem ZQ {g:Gm}(s:Sm g)(hb:HB h){M zl p:Nat}{z q c:Nat->Nat}(d:mA h D V M zl (g.D*g.Z).toNat z (fun _=>0) g.S g.O 0 false .Am .Am [] (fun _=>Zn.empty))
 (nd:(h0.next<=D/\h0.next<=M)/\h0.next<=V/\h0.next<=zl/\∀d,d<(g.D*g.Z).toNat->h0.next<=z d) (U:Ab2 h m D p bl (g.D*g.Z).toNat g (-1) (-1) 0 (fun _=>0)) (L:E3 h p ql g.D.toNat q c g (fun _=>[]))
 (nm:(h0.next<=m/\h0.next<=bl)/\h0.next<=p/\h0.next<=ql/\∀d,d<g.D.toNat->h0.next<=q d/\h0.next<=c d) (le:h0.next<=h.next):C0 h m (Mi.new g) (fun i=>i<h0.next):=by
 have:=s.d0;have:=s.d1;have:=s.z0;have:=s.z1;have:=s.s0;have:=s.s1;obtain⟨m0,m1⟩:=Nz (a:=g.D) (b:=g.Z) (A:=8) (B:=64);have u:=d.dev;have J:∀i,i<(g.D*g.Z).toNat->∃s,h.get (z i)=some (.cells [s,I g.S,I 0,I 0,.bool false] 176):=fun i hi=>by
  obtain⟨s,a,_⟩:=(u.Ai i hi).Ai;exact⟨s,a⟩
 have hF:∀i,A01 V zl (g.D*g.Z).toNat z (fun _=>0) (fun _=>Zn.empty) i->i=V\/i=zl\/∃d,d<(g.D*g.Z).toNat/\i=z d:=fun i hi=>by
  rcases hi with y|y|⟨d,hd,y|y⟩
  ·exact .inl y
  ·exact .inr (.inl y)
  ·exact .inr (.inr ⟨d,hd,y⟩)
  ·exact absurd rfl y.1
 have kind:∀i o,h.get i=some o->(∀l,o≠.cells l 131)->(∀l,o≠.vec l 128 1)->(∀l,o≠.cells l 176)->¬A01 V zl (g.D*g.Z).toNat z (fun _=>0) (fun _=>Zn.empty) i:=fun i o E X h2 Y hi=>by
  rcases hF i hi with y|y|⟨d,hd,y⟩
  ·subst y;rw[u.dev]at E;cases E;exact X _ rfl
  ·subst y;rw[u.row]at E;cases E;exact h2 _ rfl
  ·subst y
   obtain⟨s,hs⟩:=J d hd;rw[hs]at E;cases E;exact Y _ rfl
 have T:∀i o,h.get i=some o->(∀l,o≠.cells l 131)->(∀l,o≠.vec l 128 1)->(∀l,o≠.cells l 176)->(∀l,o≠.cells l 118)->(∀l,o≠.map l)->¬(i=D\/i=M\/A01 V zl (g.D*g.Z).toNat z (fun _=>0) (fun _=>Zn.empty) i):=fun i o E X h2 Y h4 h5 hi=>by
  rcases hi with y|y|y
  ·subst y;rw[d.Da]at E;cases E;exact h4 _ rfl
  ·subst y;rw[d.marks]at E;cases E;exact h5 _ rfl
  ·exact kind i o E X h2 Y y
 have C:∀i,A01 V zl (g.D*g.Z).toNat z (fun _=>0) (fun _=>Zn.empty) i->i<h.next/\h0.next<=i:=fun i hi=>by
  rcases hF i hi with y|y|⟨d,hd,y⟩
  ·subst y;exact⟨hb _ _ u.dev,nd.2.1⟩
  ·subst y;exact⟨hb _ _ u.row,nd.2.2.1⟩
  ·subst y
   obtain⟨s,hs⟩:=J d hd;exact⟨hb _ _ hs,nd.2.2.2 d hd⟩
 have hS:g.S=((g.S.toNat:Nat):Int):=a_
 have W:Fm h D (Jp.new (g.D*g.Z).toNat g.S.toNat g.O) (fun i=>i=D\/i=M\/A01 V zl (g.D*g.Z).toNat z (fun _=>0) (fun _=>Zn.empty) i):=by
  have zw:∀size:Nat,0<size->Zn.empty.Wf size:=fun size hs=>⟨fun x hx=>(by cases hx),by show 0<=4;omega,aD _,cF _,fun _=>hs⟩
  have dw:Dv.Wf ⟨(g.D*g.Z).toNat,g.S.toNat,g.O,0,false,fun _=>Zn.empty⟩:=⟨by show g.S.toNat<=64;omega,by show(g.D*g.Z).toNat<=512;omega,fun i _=>zw _ (by show 0<g.S.toNat;omega)⟩;refine⟨fun i hi=>?_,⟨by show 0+0<=200;omega,fun e he=>(by cases he),fun e he=>(by cases he)⟩,V,M,0,0,.Am,.Am,[],_,d.Da,d.marks,fun e he=>(by cases he),.nil _ _ _ _,.nil _ _ _ _,⟨dw,fun i hi=>(C i hi).1,zl,z,fun _=>0,?_,fun i hi=>hi⟩,⟨fun i hi=>.inr (.inr hi),.inl rfl,.inr (.inl rfl),fun y=>absurd y (bX _),fun y=>absurd y (bX _)⟩,⟨kind _ _ d.Da (by intros;simp) (by intros;simp) (by intros;simp),kind _ _ d.marks (by intros;simp) (by intros;simp) (by intros;simp),fun y=>absurd y (bX _),fun y=>absurd y (bX _),fun y=>absurd y (bX _)⟩⟩
  ·rcases hi with y|y|y
   ·subst y;exact hb _ _ d.Da
   ·subst y;exact hb _ _ d.marks
   ·exact(C i y).1
  ·show L2 h V zl (g.D*g.Z).toNat z (fun _=>0) ((g.S.toNat:Nat):Int) g.O 0 false (fun _=>Zn.empty)
   rw[<-hS];exact u
 refine⟨⟨fun i hi=>hi.1,D,p,bl,ql,g.D.toNat,q,c,_,U,L,⟨rfl,s,fun d _=>cF _⟩,W,?_,?_⟩,fun i hi=>aL hi le,{ toWp:=⟨s,fun d _ x hx=>by cases hx⟩,op:=.inl ⟨rfl,rfl⟩ }⟩
 ·have k:=T
  exact⟨k _ _ U.Hp (by intros;simp) (by intros;simp) (by intros;simp) (by intros;simp) (by intros;simp),k _ _ U.Ax6 (by intros;simp) (by intros;simp) (by intros;simp) (by intros;simp) (by intros;simp),k _ _ L.Ed (by intros;simp) (by intros;simp) (by intros;simp) (by intros;simp) (by intros;simp),k _ _ L.row (by intros;simp) (by intros;simp) (by intros;simp) (by intros;simp) (by intros;simp),
   fun d hd=>⟨k _ _ (L.que d hd) (by intros;simp) (by intros;simp) (by intros;simp) (by intros;simp) (by intros;simp),k _ _ (L.chan d hd) (by intros;simp) (by intros;simp) (by intros;simp) (by intros;simp) (by intros;simp)⟩⟩
 ·refine⟨fun i hi=>?_,⟨hb _ _ U.Hp,a_⟩,⟨hb _ _ U.Ax6,a_⟩,⟨hb _ _ L.Ed,a_⟩,⟨hb _ _ L.row,a_⟩,fun d hd=>⟨⟨hb _ _ (L.que d hd),by have:=nm.2.2.2 d hd;omega⟩,⟨hb _ _ (L.chan d hd),by have:=nm.2.2.2 d hd;omega⟩⟩⟩
  rcases hi with y|y|y
  ·subst y;exact⟨hb _ _ d.Da,a_⟩
  ·subst y;exact⟨hb _ _ d.marks,a_⟩
  ·exact⟨(C i y).1,by have:=(C i y).2;omega⟩
def lJ(e:En)(z mt off Ap seq:Int):List EV:=Be (Ls (C8 { e with Bj:=mt } z off Ap seq).1)
def EOk(e:En)(Ap seq:Int):Prop:=(C8 e 0 0 Ap seq).2=0
theorem EOk.at{seq:Int}(h:EOk e Ap seq){z off:Int}(E:0<=z)(o:z<=65535)(hm:0<=mt)(u:mt<=65535)(J:0<=off)(B:off<=65535):(C8 { e with Bj:=mt } z off Ap seq).2=0:=by
 unfold EOk C8 at h;by_cases C:iT e=true/\hH ⟨e.kind,0,0,Ap,seq,(Du e).1⟩=true/\e.first<=seq/\seq-e.count<e.first
 ·obtain⟨c1,c2,c3,c4⟩:=C
  unfold C8;rw[aK];refine⟨?_,?_,c3,c4⟩
  ·unfold iT at c1⊢
   simp only[aX]at c1⊢;exact⟨c1.1,c1.2.1,Gd.2 ⟨hm,u⟩,c1.2.2.2⟩
  ·unfold hH at c2⊢
   simp only[aX]at c2⊢;exact⟨c2.1,Gd.2 ⟨E,o⟩,Gd.2 ⟨J,B⟩,c2.2.2.2⟩
 ·rw[aH C]at h
  exact absurd h c_
theorem EOk.seq{seq:Int}(h:EOk e Ap seq):0<=seq/\seq<=281474976710655/\iT e=true:=by
 unfold EOk C8 at h;by_cases o:iT e=true/\hH ⟨e.kind,0,0,Ap,seq,(Du e).1⟩=true/\e.first<=seq/\seq-e.count<e.first
 ·obtain⟨c1,c2,c3,c4⟩:=o
  unfold hH at c2;simp only[aX]at c2;have:=Gd.1 c2.2.2.2.2;exact⟨this.1,this.2,c1⟩
 ·rw[aH o]at h
  exact absurd h c_
def Mi.jr(S:Mi)(z:Int):Mi:={ S with ps:=(iX S.g S.g.D.toNat S.ps z).2 }
theorem Mi.Wf.jr(w:S.Wf){z:Int}(o:0<=Cl S.g z->¬S.bad z.toNat=1):(S.jr z).Wf:={ toWp:=⟨w.sm,vt w.ps _ _ o⟩,op:=w.op }
section
variable(M:C0 h m S F)(hb:HB h)
include M
theorem O8(hb:HB h):Ok (Ca K (.ptr m 0) h) fun v h'=>v=gV S.g/\Ext h h':=by
 obtain⟨_,D,p,bl,ql,np,q,c,G,a⟩:=M.s;exact A0l a.Hp hb
theorem WK:Lo K (.ptr m 0) h=some (.tuple [I S.a,I S.b,I S.u],h):=by
 obtain⟨_,D,p,bl,ql,np,q,c,G,a⟩:=M.s;exact Azf a.Hp
include hb
theorem CN(A:Cf disp)(hK:10000<K):∃p,Ci K (.ptr m 0) h=some (.ptr p 0,h)/\∀{d:Nat},8<=d->∀{z:Int},Vp z->(0<=Cl S.g z->¬S.bad z.toNat=1) ->
 Ok (Ag TT disp K d false 41 [.ptr p 0,I z] h) fun v h'=>v=I (iX S.g S.g.D.toNat S.ps z).1/\C0 h' m (S.jr z) F/\Kf F h h'/\HB h':=by
 obtain⟨lt,D,p,bl,ql,np,q,c,G,a⟩:=M.s;refine⟨p,Xx a.Hp,fun {d} hd {z} B C=>?_⟩;have o:=a.psz.nd;subst o;refine(QX (K:=K) A a.Ed hb a.psz a_ hd z B).mono ?_;rintro v h' ⟨c3,u,rfl,E,J⟩;obtain⟨a3,cH⟩:=a.oG hb E J c3;obtain⟨L,O⟩:=M.made (R7.mono (H:=Out F h) ⟨fun i hi=>aL hi.1 cH.next,D,p,bl,ql,_,q,c,G,a3⟩ (fun _=>.inl) (Bi.lt lt cH.next)) cH (M.wf.jr C);exact⟨rfl,L,O,u⟩
end
theorem UZ(w:e.Wf){Ai off seq:Int}(B:(C8 { e with Bj:=mt } Ai off Ap seq).2=0){x:Me}(C:x.off=off):
 km (Ls (C8 { e with Bj:=mt } Ai off Ap seq).1) x Ai mt=if ¬e.kind=2/\seq=x.seq/\((E5 e.bytes:Nat):Int)=x.sum then(true,e.bytes)else(false,Di):=by
 have w':({ e with Bj:=mt }:En).Wf:=⟨w.len,w.u8⟩;obtain⟨E,h2,J,h4⟩:=vv w' B;have o:=sg w' Ai off Ap seq;rw[E]at o⊢;have u:=z5 o h2;subst C;unfold km;simp only at u;rw[u];simp only[h4,gF]
theorem z7 {g:Gm}(o:rtB g=true){z off:Int}(B:0<=Cl g z)(h0:0<=off)(C:off<g.S):Mn g z off=true:=by
 unfold Mn;rcases Z6 (Qu o) z with y|⟨_,_,_,u,E⟩
 ·omega
 ·rw[o,Gd.2 ⟨u,a_⟩,Gd.2 ⟨h0,a_⟩];rfl
end
end Go.Ev
