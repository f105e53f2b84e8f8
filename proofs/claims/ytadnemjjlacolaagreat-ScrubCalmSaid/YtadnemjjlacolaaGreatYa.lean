import Derived.Test.YtadnemjjlacolaaGreatXa
set_option linter.all false
namespace Go.Ev
open Go.Proofs
set_option maxRecDepth 100000
variable {k:EV->R}{D K V b d i j m n t b3 b4 bl np ql off:Nat}{P:Int->Prop}{out:List Nat}{h h' h0:Ab}{v Ao mt kind:Int}{op:Bool}{y:List EV}{kk:Ab->R}{Q:EV->Ab->Prop}{g:Gm}{F G H F':Nat->Prop}{ps:Nat->List Int}{Z:Zn}{ms:List (EV × EV)}{ev:List Y6}{ih:EV->EV->EV->EV->EV->EV->EV->EV->Ab->R}{disp:Nat->Option FT}
abbrev Nk(k:IntKind)(a:Nat):EV:=.int k (Int.ofNat a)
theorem wrap_u8(a:Nat):Dr .u8 (Int.ofNat a)=Int.ofNat (a%256):=by
 rw[Nl];rfl
theorem wrap_u32(a:Nat):Dr .u32 (Int.ofNat a)=Int.ofNat (a%4294967296):=by
 rw[Nl];rfl
theorem vX {c:IntKind}{a:Nat}:So .u8 (.int c (Int.ofNat a)) k=k (Nk .u8 (a%256)):=by
 rw[FF,wrap_u8]
theorem qX{a:Nat}:iK (bin TT .shr t) (.int .i64 (Int.ofNat a)) (.int .u64 8) k=k (Nk .i64 (a/256)):=by
 show k (.int .i64 (.ofNat (Nat.shiftRight a 8)))=_;have:Nat.shiftRight a 8=a/256:=gA a 8;rw[this]
theorem tw {s:Nat}(hs:s<=32){a:Nat}:iK (bin TT .shr t) (.int .u32 (Int.ofNat a)) (.int .u64 (Int.ofNat s)) k=k (Nk .u32 (a/2^s)):=by
 show k (.int .u32 (.ofNat (Nat.shiftRight a (Bb (Nat.ble s 32) s 32))))=_;rw[aQ hs,Ak];have:Nat.shiftRight a s=a/2^s:=gA a s;rw[this]
theorem WJ{a:Nat}(o:a<4294967296)(hb:b<4294967296):iK (bin TT .xor t) (.int .u32 (Int.ofNat a)) (.int .u32 (Int.ofNat b)) k=k (Nk .u32 (a ^^^ b)):=by
 show k (.int .u32 (Dr .u32 (.ofNat (Nat.xor a b))))=_;rw[wrap_u32];have:Nat.xor a b<2^32:=eK (n:=32) o hb;rw[gE (by exact this)];rfl
theorem WK{a:Nat}(o:a<256)(hb:b<256):iK (bin TT .xor t) (.int .u8 (Int.ofNat a)) (.int .u8 (Int.ofNat b)) k=k (Nk .u8 (a ^^^ b)):=by
 show k (.int .u8 (Dr .u8 (.ofNat (Nat.xor a b))))=_;rw[wrap_u8];have:Nat.xor a b<2^8:=eK (n:=8) o hb;rw[gE (by exact this)];rfl
def wd:Nat->Nat->Nat
 | 0,_=>1
 | f+1,a=>if a/256=0 then 1 else wd f (a/256)+1
theorem WL:∀(f a w:Nat),a<256^(f+1)->1<=w->(wd f a<=w↔a<256^w)
 | 0,a,w,h,hw=>by
  refine⟨fun _=>aN h (fm (by decide) (by omega)),fun _=>hw⟩
 | f+1,a,w,h,hw=>by
  unfold wd;by_cases h0:a/256=0
  ·rw[aI h0]
   refine⟨fun _=>?_,fun _=>hw⟩;have:a<256:=by omega
   exact aN this (by have:=fm (n:=256) (by decide) hw;simpa using this)
  ·rw[aG h0]
   have ih:=WL f (a/256) (w-1) (by rw[fD]at h;exact fZ (by rw[gN];exact h));by_cases o:w=1
   ·subst o
    refine⟨fun y=>?_,fun y=>?_⟩
    ·have:1<=wd f (a/256):=by cases f<;>unfold wd<;>(try split)<;>omega
     omega
    ·exfalso;apply h0;simp at y;omega
   ·have ih:=ih (by omega)
    obtain⟨v,rfl⟩:∃v,w=v+1:=⟨w-1,by omega⟩;rw[gS]at ih;rw[fD];refine⟨fun y=>?_,fun y=>?_⟩
    ·have:=ih.1 (by omega)
     have:=Nat.div_lt_iff_lt_mul (k:=256) (x:=a) (y:=256^v) (by decide);omega
    ·have:=ih.2 (fZ (by rw[gN];exact y))
     omega
theorem Bb9:∀(f m a n:Nat) (h:Ab),f<m->a<256^(f+1)->n+f<=100->f<=10 ->
 Mh K m (Nk .i64 a) (Nk .i64 n) h=Y5 K (Nk .i64 (a/256^(wd f a-1))) (Nk .i64 (n+wd f a-1)) h:=by
 intro f;induction f with
 | zero=>
  intro m a n h hm o B C;obtain⟨m,rfl⟩:∃k,m=k+1:=⟨m-1,by omega⟩;have:a/256=0:=by simp at o;omega
  simp only[Mh,dr];rw[qX,this];simp only[Nk,Ac];rw[show decide ((0:Int)<Int.ofNat 0)=false from rfl];simp only[Aa,wd,fT,Nat.pow_zero,Nat.div_one,gS]
 | succ f ih=>
  intro m a n h hm o B C;obtain⟨m,rfl⟩:∃k,m=k+1:=⟨m-1,by omega⟩;simp only[Mh,dr];rw[qX];simp only[Nk,Ac];unfold wd;by_cases h0:a/256=0
  ·rw[aI h0,h0]
   rw[show decide ((0:Int)<Int.ofNat 0)=false from rfl];simp only[Aa,fT,Nat.pow_zero,Nat.div_one,gS]
  ·rw[aG h0,show decide ((0:Int)<Int.ofNat (a/256))=true from aM (by show(0:Int)<((a/256:Nat):Int);omega)]
   simp only[Aa,IM];rw[qX];simp only[Nk,Ac];rw[show Dr .i64 (Int.ofNat n+1)=Int.ofNat (n+1)from Cl (by show _<=((n:Nat):Int)+1;omega) (by show((n:Nat):Int)+1<=_;omega)];have e:=ih m (a/256) (n+1) h (by omega) (fZ (by rw[gN,<-fD];exact o)) (by omega) (by omega);rw[e];have hw:1<=wd f (a/256):=by cases f<;>unfold wd<;>(try split)<;>omega
   obtain⟨u,hu⟩:∃u,wd f (a/256)=u+1:=⟨wd f (a/256)-1,by omega⟩;rw[hu,gS,show u+1+1-1=u+1 from rfl,Nat.pow_succ',fO,show n+1+(u+1)-1=n+(u+1+1)-1 by omega]
def kB(a:Nat):Nat:=if 7<wd 7 a then 8 else wd 7 a
theorem BA {a:Nat}(u:a<9223372036854775808)(hK:1000<K)(h:Ab):Ws K (.int .i64 (Int.ofNat a)) h=some (Nk .i64 (kB a),h):=by
 simp only[Ws,dr];unfold kB;have e:=Bb9 (K:=K) 7 K a 1 h (by omega) (Nat.lt_trans u (by decide)) (by decide) (by decide);have:(EV.int .i64 1)=Nk .i64 1:=rfl;rw[this,e];have hw:1<=wd 7 a:=by unfold wd;split<;>omega
 simp only[Y5,Nk,Ac];rw[show decide (Int.ofNat (a/256^(wd 7 a-1))<0)=false from aJ (by show ¬(((a/256^(wd 7 a-1):Nat):Int)<0);exact Int.not_lt.2 (Int.natCast_nonneg _))];rw[show 1+wd 7 a-1=wd 7 a by omega];by_cases o:7<wd 7 a
 ·rw[show decide ((7:Int)<Int.ofNat (wd 7 a))=true from aM (by show(7:Int)<((wd 7 a:Nat):Int);omega),aI o]
  simp only[Aa,X3];rfl
 ·rw[show decide ((7:Int)<Int.ofNat (wd 7 a))=false from aJ (by show ¬((7:Int)<((wd 7 a:Nat):Int));omega),aG o]
  simp only[Aa,X3,IL]
theorem Bjm {a:Nat}(hK:1000<K)(h:Ab):Ws K (.int .i64 (Int.negSucc a)) h=some (I 8,h):=by
 obtain⟨m,rfl⟩:∃k,K=k+1:=⟨K-1,by omega⟩;simp only[Ws,Mh,dr];have e:∀k:EV->R,iK (bin TT .shr 3) (.int .i64 (Int.negSucc a)) (.int .u64 8) k=k (.int .i64 ((Int.negSucc a).fdiv 256)):=fun k=>rfl
 have o:(Int.negSucc a).fdiv 256<0:=by
  rw[fW _ (by decide)];have:Int.negSucc a<0:=Int.negSucc_lt_zero a;omega
 rw[e];simp only[Ac];rw[show decide ((0:Int)<(Int.negSucc a).fdiv 256)=false from aJ (by omega)];simp only[Aa,Y5,Ac];rw[show decide (Int.negSucc a<0)=true from aM (Int.negSucc_lt_zero a)];simp only[Aa,X3,I]
theorem Bd {a w:Nat}(o:a<9223372036854775808)(u:1<=w)(B:w<=7):kB a<=w↔a<256^w:=by
 have:=WL 7 a w (Nat.lt_trans o (by decide)) u;rw[<-this];unfold kB;split<;>omega
def Pa(w a:Nat):List Nat:=(List.range w).map fun i=>a/256^i%256
theorem wD(w a:Nat):Pa (w+1) a=Pa w a++[a/256^w%256]:=by unfold Pa;rw[dE,cR];rfl
theorem De(w a:Nat):(Pa w a).length=w:=by simp[Pa]
theorem qY(a b:List Nat):Bj (a++b)=Bj a++Bj b:=cR
theorem Bg(a:List Nat):(Bj a).length=a.length:=bh _
structure lU(h:Ab)(P t:Nat)(out:List Nat)(bad:Bool):Prop where
 Ou:∃s q,h.get P=some (.cells [s,.bool bad] t)/\Cd h s q 5 1 out.length (Bj out)/\(0<out.length->P<q)
theorem wF(n:Int)(h:Ab):Yr K (I n) h=some (.bool (decide (1<=n/\n<=7)),h):=by
 simp only[Yr,I,Ac,Aa];by_cases o:1<=n
 ·simp only[o,aC,Aa,Ac,xB,hH]
 ·simp only[o,aA,Aa,xB,gk]
theorem Bkp {P w:Nat}{bad:Bool}{a:Nat}(E:a<9223372036854775808)(hw:w<=7)(J:out.length<=60000)(h0:Ab)(L:P<h0.next):∀(m i:Nat) (h:Ab),w-i<m->i<=w->HB h->Av (fun i=>P<=i) h0 h->lU h P t (out++Pa i a) bad ->
 Ok (I5 K m (.ptr P 0) (Nk .i64 (a/256^i)) (I w) (I i) h) fun _ h'=>lU h' P t (out++Pa w a) bad/\Av (fun i=>P<=i) h0 h'/\HB h':=by
 intro m;induction m with
 | zero=>intro i h hm;omega
 | succ m ih=>
  intro i h hm O hb c p;obtain⟨s,q,g,r,l⟩:=p.Ou;simp only[I5,I,Ac,Aa];by_cases o:(i:Int)<w
  ·simp only[o,aC,Aa,wA,Cw g rfl]
   rw[wrap_u8];have hlen:(out++Pa i a).length=out.length+i:=by rw[aF,De]
   refine Md (z:=[.int .u8 0]) r hb rfl rfl rfl (by omega) (by omega) ?_;intro h2 C T c2;have gq:¬(0<(out++Pa i a).length/\P=q):=fun y=>by have:=l y.1;omega
   have u:=c2.at hb g gq;have B:=(c2.hb hb) _ _ u;refine Ok.gT u rfl rfl (by show 0<2;decide) ?_;rw[qX];simp only[wB,I,Ac];rw[Cl,fO,<-fD];have c3:Av (fun i=>P<=i) h (h2.put P (.cells ([s,EV.bool bad].set 0 (.slice (h.next+1) 0 ((out++Pa i a).length+1) ((out++Pa i a).length+1) true)) t)):=(c2.mono fun j hj=>by have:=l hj.1;show P<=j;omega).Ar (.inl (aE _)) B _;refine ih (i+1) _ (by omega) (by omega) ((c2.hb hb).put B _) (c.trans c3) ?_;rw[wD,<-bY];refine⟨_,h.next+1,Ae _ _ _,?_,fun _=>by have:=c.next;omega⟩;have e1:((out++Pa i a)++[a/256^i%256]).length=(out++Pa i a).length+1:=by rw[aF];rfl
   have e2:Bj ((out++Pa i a)++[a/256^i%256])=Bj (out++Pa i a)++EV.cells (Nk .u8 (a/256^i%256)):=by rw[qY];rfl
   rw[e1,e2];refine C.frame fun _=>Af _ ?_
   have:=hb _ _ g;omega
  ·have:i=w:=by omega
   subst this;simp only[o,aA,Aa];exact .ret ⟨p,c,hb⟩
def fits(w:Nat)(v:Int):Bool:=decide (0<=v/\v<(256^w:Nat))
theorem Mf {P w:Nat}{bad:Bool}(hK:1000<K)(p:lU h P t out bad)(hb:HB h)(J:out.length<=60000)(L:1<=w)(E:w<=7)(O : -9223372036854775808<=v/\v<=9223372036854775807:=by omega):
 Ok (Em K (.ptr P 0) (I w) (I v) h) fun _ h'=>lU h' P t (if fits w v=true then out++Pa w v.toNat else out) (bad||!fits w v)/\Av (fun i=>P<=i) h h'/\HB h':=by
 obtain⟨s,q,g,r,l⟩:=p.Ou;have u:=hb _ _ g;simp only[Em,dr];rw[wF,aM ⟨by omega,by omega⟩];simp only[Aa,Ac];have no:fits w v=false->Ok (f_ 1 (.ptr P 1) (.bool true) h fun h=>some (.tuple [],h)) fun _ h'=>lU h' P t (if fits w v=true then out++Pa w v.toNat else out) (bad||!fits w v)/\Av (fun i=>P<=i) h h'/\HB h':=by
  intro B;refine Ok.gT g rfl rfl (by show 1<2;decide) ?_;refine .ret ⟨?_,(Av.refl (S:=fun i=>P<=i) h).Ar (.inl (aE _)) u _,hb.put u _⟩;rw[B,aG (by simp),dJ,Bool.or_true];exact⟨s,q,Ae _ _ _,r.frame fun y=>Af _ (by have:=l y;omega),l⟩
 cases v with
 | negSucc a=>
  unfold I;rw[Bjm hK,Au];simp only[I,Ac];rw[show decide ((w:Int)<8)=true from aM (by omega)];simp only[Aa,O4];exact no (aJ fun y=>absurd y.1 (by have:=Int.negSucc_lt_zero a;omega))
 | ofNat a=>
  have C:a<9223372036854775808:=by have:((a:Nat):Int)<=9223372036854775807:=O.2;omega
  unfold I;rw[BA C hK,Au];have o:=Bd C L E;simp only[Nk,Ac];by_cases hw:kB a<=w
  ·have B:fits w (Int.ofNat a)=true:=aM ⟨Int.natCast_nonneg a,by have:=o.1 hw;exact Int.ofNat_lt.2 this⟩
   rw[show decide ((w:Int)<Int.ofNat (kB a))=false from aJ (by show ¬(w:Int)<((kB a:Nat):Int);omega)];simp only[Aa,O4,Z6];have:=Bkp (K:=K) (P:=P) (t:=t) (w:=w) (bad:=bad) C E J h u K 0 h (by omega) (cZ _) hb (Av.refl _) (by simpa [Pa]using p);rw[Nat.pow_zero,Nat.div_one]at this;rw[B,aI rfl,fF,Bool.or_false];exact this
  ·rw[show decide ((w:Int)<Int.ofNat (kB a))=true from aM (by show(w:Int)<((kB a:Nat):Int);omega)]
   simp only[Aa,O4];exact no (aJ fun y=>hw (o.2 (Int.ofNat_lt.1 y.2)))
theorem WM {P:Nat}{bad:Bool}{new:List Nat}(p:lU h P t out bad)(hb:HB h)(L:out.length<=60000){x:EV}(C:lenOf x=some n)(h0:0<n)(O:n<=5000)(E:O9 h 1 n x=some (Bj new))(u:new.length=n):
 Ok (Qp K (.ptr P 0) x h) fun _ h'=>lU h' P t (out++new) bad/\Av (fun i=>P<=i) h h'/\HB h':=by
 obtain⟨s,q,g,r,l⟩:=p.Ou;have T:=hb _ _ g;simp only[Qp,Aa,Cw g rfl];obtain⟨h2,e,J,U,c2⟩:=pX r C h0 (by omega) (by omega) E (by rw[Bg,u,bk]);rw[e,Au];have gq:¬(0<out.length/\P=q):=fun y=>by have:=l y.1;omega
 have B:=c2.at hb g gq;have o:=(c2.hb hb) _ _ B
 try simp only[Aa]
 refine Ok.gT B rfl rfl (by show 0<2;decide) ?_;refine .ret ⟨⟨_,h.next,Ae _ _ _,?_,fun _=>by omega⟩,(c2.mono fun j hj=>by have:=l hj.1;show P<=j;omega).Ar (.inl (aE _)) o _,(c2.hb hb).put o _⟩;rw[aF,u,qY];exact J.frame fun _=>Af _
structure Bs(h:Ab)(x:EV)(b off:Nat)(l:List Nat):Prop where
 Ou:∃r op o row,x=.slice b off l.length r op/\l.length<=r/\h.get b=some o/\rowOf o=some row/\off+l.length<=row.length/\(row.drop off).take l.length=Bj l
theorem Bs.frame{x:EV}{l:List Nat}(s:Bs h x b off l)(e:h'.get b=h.get b):Bs h' x b off l:=by
 obtain⟨r,op,o,row,e1,e0,e2,e3,e4,e5⟩:=s.Ou;exact⟨r,op,o,row,e1,e0,by rw[e];exact e2,e3,e4,e5⟩
theorem Bs.lt{x:EV}{l:List Nat}(s:Bs h x b off l)(hb:HB h):b<h.next:=by
 obtain⟨r,op,o,row,e1,e0,e2,e3,e4,e5⟩:=s.Ou;exact hb _ _ e2
theorem Bs.ext{x:EV}{l:List Nat}(s:Bs h x b off l)(hb:HB h)(c:Ext h h'):Bs h' x b off l:=s.frame (c.get _ (s.lt hb) id)
theorem Bs.lift{x:EV}{l:List Nat}(s:Bs h x b off l):Bs h.lift x b off l:=s.frame (Bx _ _)
theorem Bs.len{x:EV}{l:List Nat}(s:Bs h x b off l):lenOf x=some l.length:=by
 obtain⟨r,op,o,row,rfl,_⟩:=s.Ou;rfl
theorem Bs.Hg{x:EV}{l:List Nat}(s:Bs h x b off l)(k:EV->R):Ev.Hg x k=k (I l.length):=by
 obtain⟨r,op,o,row,rfl,_⟩:=s.Ou;rfl
theorem Bs.cells{x:EV}{l:List Nat}(s:Bs h x b off l):O9 h 1 l.length x=some (Bj l):=by
 obtain⟨r,op,o,row,rfl,e0,e2,e3,e4,e5⟩:=s.Ou;show Bb (Nat.beq l.length 0) (some []) (Yz h b off (Nat.mul l.length 1))=_;rw[show Nat.mul l.length 1=l.length from bk _];have u:Og row off l.length=some (Bj l):=by rw[Fx e4,e5]
 cases B:l with
 | nil=>rfl
 | cons a r=>
  rw[show Nat.beq (a::r).length 0=false from rfl,Bm];unfold Yz;rw[e2,<-B];cases o<;>first|(cases e3;done)|(cases e3;exact u)
theorem Bs.ix{x:EV}{l:List Nat}(s:Bs h x b off l)(u:i<l.length):(∀k:EV->R,ir 1 x (.int .i64 (i:Int)) k=k (.ptr b (off+i)))/\(∀k:EV->R,Hq (.ptr b (off+i)) h k=k (Nk .u8 l[i])):=by
 obtain⟨r,op,o,row,rfl,e0,e2,e3,e4,e5⟩:=s.Ou;refine⟨fun k=>by rw[Mw u,bk],fun k=>?_⟩;rw[Cw e2 e3];have:row[off+i]? = some (Nk .u8 l[i]):=by
  have e5:=congrArg (fun z=>z[i]?) e5;simp only[fI,u,bJ,dT]at e5;rw[e5];unfold Bj;rw[bD,aD u];rfl
 rw[this];rfl
theorem Bs.take{x:EV}{l:List Nat}(s:Bs h x b off l)(C:n<=l.length):∃y,(∀k:EV->R,iD 1 x none (some (.int .i64 (n:Int))) none k=k y)/\Bs h y b off (l.take n):=by
 obtain⟨r,op,o,row,rfl,e0,e2,e3,e4,e5⟩:=s.Ou;have u:(l.take n).length=n:=by rw[bZ,eV C]
 refine⟨EV.slice b off n r op,fun k=>?_,⟨r,op,o,row,by rw[u],by rw[u];omega,e2,e3,by rw[u];omega,?_⟩⟩
 ·have:iV (EV.slice b off l.length r op) 1 none (some (.int .i64 (n:Int))) none=some (EV.slice b off n r op):=by
   have B:bound (some (.int .i64 (n:Int))) r l.length=some n:=by
    show Bb (Nat.ble n r) (some n) none=_;rw[aQ (by omega),Ak]
   unfold iV;simp only[B];cases op with
   | true=>rfl
   | false=>
    show Bb (Nat.ble 0 r) (some (EV.slice b (Bb (Nat.beq r 0) off (Nat.add off (Nat.mul 0 1))) n r false)) none=_;rw[aQ (cZ _),Ak];have:Bb (Nat.beq r 0) off (Nat.add off (Nat.mul 0 1))=off:=by
     rw[show Nat.add off (Nat.mul 0 1)=off from rfl];cases Nat.beq r 0<;>rfl
    rw[this]
  unfold iD;rw[this];rfl
 ·rw[u]
  have:=congrArg (fun z=>z.take n) e5;simp only[List.take_take,eV C]at this;rw[this];unfold Bj;rw[List.map_take]
theorem Bs.drop{l:List Nat}{r:Nat}(s:Bs h (.slice b off l.length r op) b off l)(T:n<l.length):(∀k:EV->R,iD 1 (.slice b off l.length r op) (some (.int .i64 (n:Int))) none none k=k (.slice b (off+n) (l.length-n) (r-n) op))/\Bs h (.slice b (off+n) (l.length-n) (r-n) op) b (off+n) (l.drop n):=by
 obtain⟨U,E,o,row,e1,e0,e2,e3,e4,e5⟩:=s.Ou;injection e1 with _ _ _ J L;subst J L;have u:(l.drop n).length=l.length-n:=by rw[bB]
 refine⟨fun k=>?_,⟨r-n,op,o,row,by rw[u],by rw[u];omega,e2,e3,by rw[u];omega,?_⟩⟩
 ·have:iV (.slice b off l.length r op) 1 (some (.int .i64 (n:Int))) none none=some (.slice b (off+n) (l.length-n) (r-n) op):=by
   have B:bound (some (.int .i64 (n:Int))) l.length 0=some n:=by
    show Bb (Nat.ble n l.length) (some n) none=_;rw[aQ (by omega),Ak]
   have C:bound none r l.length=some l.length:=rfl;unfold iV;simp only[B,C];cases op with
   | true=>
    rw[Ak];cases n with
    | zero=>rfl
    | succ n=>
     rw[show Nat.beq (n+1) 0=false from rfl,Bm,aQ (by show n+1+1<=r;omega),Ak,show Nat.mul (n+1) 1=n+1 from bk _];rfl
   | false=>
    rw[Bm,aQ (by show n<=r;omega),Ak,show Nat.mul n 1=n from bk _];have:Nat.beq r n=false:=by
     cases O:Nat.beq r n with
     | false=>rfl
     | true=>have:=aL O;omega
    rw[this,Bm];rfl
  unfold iD;rw[this];rfl
 ·have:=congrArg (fun z=>z.drop n) e5
  rw[u];simp only[List.drop_take,cX]at this;rw[this];unfold Bj;rw[List.map_drop]
theorem Cd.bs{s:EV}{q:Nat}{l:List Nat}(r:Cd h s q 5 1 l.length (Bj l))(o:0<l.length):Bs h s q 0 l:=by
 refine⟨l.length,true,_,Bj l,r.slice o,aE _,r.block o,rfl,by rw[Bg,bM];exact aE _,?_⟩;rw[dF,<-Bg,bW]
def Btq:EV->Nat
 | .int _ x=>x.toNat
 | _=>0
noncomputable def pH:List Nat:=Be.map Btq
theorem Bi9:Be=pH.map (Nk .u32):=by kernel_rfl
theorem Brc:pH.all (fun n=>Nat.blt n 4294967296)=true:=by kernel_rfl
theorem Bpb:pH.length=256:=by kernel_rfl
noncomputable def qS(r c:Nat):Nat:=(r/256) ^^^ (pH[(r%256) ^^^ c]?).getD 0
theorem zT(u:i<256):Be[i]? = some (Nk .u32 ((pH[i]?).getD 0))/\(pH[i]?).getD 0<4294967296:=by
 have o:i<pH.length:=by rw[Bpb];exact u
 rw[Bi9,bD,aD o];refine⟨rfl,?_⟩;have:=dV.1 Brc _ (bH o);exact bL this
theorem Bqs {r c:Nat}(B:r<4294967296)(o:c<256):qS r c<4294967296:=by
 unfold qS;have u:(r%256) ^^^ c<2^8:=eK (n:=8) (Nat.mod_lt _ (by decide)) o;exact eK (n:=32) (by show r/256<4294967296;omega) (zT u).2
theorem Bql{r c:Nat}(J:r<4294967296)(u:c<256):Ok (Xn K Uh (Nk .u32 r) (Nk .u8 c) h) fun v h'=>v=Nk .u32 (qS r c)/\Ext h h':=by
 unfold Uh;simp only[Xn,Aa];obtain⟨L,B,C,E,_⟩:=nW h (.cells Be 96);rw[B];rw[show ∀k:EV->R,iK (bin TT .shr 94) (Nk .u32 r) (.int .u64 8) k=k (Nk .u32 (r/256))from fun k=>tw (s:=8) (by decide)];have o:(r%256) ^^^ c<256:=eK (n:=8) (Nat.mod_lt _ (by decide)) u;rw[wrap_u8,WK (Nat.mod_lt _ (by decide)) u,show ∀k:EV->R,jW 256 1 (.ptr h.next 0) (Nk .u8 ((r%256) ^^^ c)) k=k (.ptr h.next (0+((r%256) ^^^ c)*1))from fun k=>Xi o];rw[Cw E rfl,bM,bk,(zT o).1];simp only[G2];rw[WJ (by omega) (zT o).2];exact .ret ⟨rfl,C⟩
noncomputable def oi(r:Nat)(l:List Nat):Nat:=l.foldl qS r
theorem vY:∀(l:List Nat) (r:Nat),r<4294967296->(∀b∈l,b<256)->oi r l<4294967296
 | [],r,o,_=>o
 | c::l,r,o,u=>vY l (qS r c) (Bqs o (u c (aW ..))) fun b hb=>u b (aU _ hb)
theorem Bh9 {T:Nat}{x:EV}{l:List Nat}(E:∀b∈l,b<256)(U:l.length<=5000){r0:Nat}(h0:r0<4294967296):∀(m i:Nat) (h:Ab),l.length-i<m->i<=l.length->HB h->h.get T=some (.cells Be 96)->Bs h x b off l ->
 Ok (Nm K m (.ptr T 0) (Nk .u32 (oi r0 (l.take i))) x (I l.length) (I i) h) fun v h'=>v=Nk .u32 (oi r0 l)/\Ext h h':=by
 intro m;induction m with
 | zero=>intro i h hm;omega
 | succ m ih=>
  intro i h hm W hb J s;simp only[Nm,I,Ac,Aa];by_cases u:(i:Int)<l.length
  ·have o:i<l.length:=by omega
   obtain⟨e1,e2⟩:=s.ix o;simp only[u,aC,Aa,JQ,e1,e2,Cy J rfl];rw[Aj Pr];simp only[G2];have C:∀b∈l.take i,b<256:=fun b hb=>E b (b9 hb)
   refine(Bql (K:=K) (vY _ _ h0 C) (E _ (bH o))).Am ?_;rintro _ L ⟨rfl,B⟩;simp only[JP,I,Ac];rw[Cl];have e:qS (oi r0 (l.take i)) l[i]=oi r0 (l.take (i+1)):=by
    unfold oi;rw[fV,List.foldl_append,aD o];rfl
   rw[e];refine(ih (i+1) L (by omega) (by omega) (B.hb hb) (B.at hb J) (s.ext hb B)).mono ?_;rintro v h' ⟨e,O⟩;exact⟨e,B.trans O⟩
  ·have:i=l.length:=by omega
   subst this;simp only[u,aA,Aa,JO,bW];exact .ret ⟨rfl,Av.refl _⟩
noncomputable def Fl(l:List Nat):Nat:=oi 4294967295 l ^^^ 4294967295
theorem vO {l:List Nat}(o:∀b∈l,b<256):Fl l<4294967296:=eK (n:=32) (vY l _ (by decide) o) (by decide)
theorem vZ{x:EV}{l:List Nat}(hK:10000<K)(s:Bs h x b off l)(hb:HB h)(u:∀b∈l,b<256)(B:l.length<=5000):Ok (Oc K Uh x h) fun v h'=>v=Nk .u32 (Fl l)/\Ext h h':=by
 unfold Uh;simp only[Oc,Aa];obtain⟨C,E,o,J,_⟩:=nW h (.cells Be 96);rw[E];have s1:=s.ext hb o;simp only[xF,s1.Hg,dr];refine(Bh9 (K:=K) u B (r0:=4294967295) (by decide) K 0 C (by omega) (cZ _) (o.hb hb) J s1).Am ?_;rintro _ h2 ⟨rfl,L⟩;rw[show ∀k:EV->R,iK (bin TT .xor 94) (Nk .u32 (oi 4294967295 l)) (.int .u32 4294967295) k=k (Nk .u32 (Fl l))from fun k=>WJ (b:=4294967295) (vY l _ (by decide) u) (by decide)];exact .ret ⟨rfl,o.trans L⟩
theorem Cd.cells{s:EV}{q:Nat}{l:List Nat}(r:Cd h s q 5 1 l.length (Bj l)):O9 h 1 l.length s=some (Bj l):=by
 rcases dY l.length with h0|hp
 ·have:l = []:=cS.1 h0
  subst this;rcases r with⟨_,_,rfl|⟨b,rfl⟩⟩|⟨y,_⟩
  ·rfl
  ·rfl
  ·exact absurd y (bN _)
 ·exact(r.bs hp).cells
theorem BD{P q:Nat}{s:EV}(g:h.get P=some (.cells [s,.bool false] t))(r:Cd h s q 5 1 out.length (Bj out))(hb:HB h)(L:out.length<=60000):
 Ok (Oj K (.ptr P 0) h) fun v h'=>∃y q',v=.tuple [y,I 0]/\Cd h' y q' 5 1 out.length (Bj out)/\Ext h h'/\HB h'/\(0<out.length->h.next<=q'):=by
 simp only[Oj,Aa,Cw g rfl,IE];rw[show Bz [(.int .u8 0)] 5 1 0 [] h=some (.slice h.next 0 0 0 false,h.new (.cells [] 5))from rfl,Au];have o:Ext h (h.new (.cells [] 5)):=Av.new _ _;have B:=o.at hb g;have u:Cd (h.new (.cells [] 5)) s q 5 1 out.length (Bj out):=r.frame fun y=>o.get _ (hb _ _ (r.block y)) id
 generalize h.new (.cells [] 5)=O at o B u⊢;simp only[Aa,Cw B rfl];refine(Yy (b:=h.next) (e:=5) u.len (by omega) u.cells (by rw[Bg,bk]) 0).Am ?_;rintro v h2 ⟨q',E,C,J⟩;refine .ret ⟨v,q',rfl,E,o.trans C,(o.trans C).hb hb,fun y=>?_⟩;have:=J y;have:=o.next
 omega
theorem WN{P:Nat}(p:lU h P t out false)(hb:HB h)(o:out.length<=60000):
 Ok (Oj K (.ptr P 0) h) fun v h'=>∃y q',v=.tuple [y,I 0]/\Cd h' y q' 5 1 out.length (Bj out)/\Ext h h'/\HB h'/\(0<out.length->h.next<=q'):=by
 obtain⟨s,q,g,r,_⟩:=p.Ou;exact BD g r hb o
theorem Bt9(s:Nat):Pa 4 s = [s%256,s/256%256,s/65536%256,s/16777216%256]:=by
 simp[Pa,dE]
theorem Bre(a b c d:Int)(h:Ab):Bz [(.int .u8 0)] 5 1 4 [(0,.int .u8 a),(1,.int .u8 b),(2,.int .u8 c),(3,.int .u8 d)] h=some (.slice h.next 0 4 4 false,h.new (.cells [.int .u8 a,.int .u8 b,.int .u8 c,.int .u8 d] 5)):=rfl
theorem Bpd{x:EV}{l:List Nat}(hK:10000<K)(s:Bs h x b off l)(hb:HB h)(hl:∀b∈l,b<256)(h0:0<l.length)(hn:l.length<=5000):
 Ok (Xb K Uh x h) fun v h'=>∃q',Cd h' v q' 5 1 (l++Pa 4 (Fl l)).length (Bj (l++Pa 4 (Fl l)))/\Ext h h'/\HB h'/\h.next<=q':=by
 unfold Uh;simp only[Xb,Aa];obtain⟨h1,e_,u,g3,_⟩:=nW h (.cells Be 96);rw[e_];have o:=u.hb hb;rw[Cy g3 rfl,Aj Pr];simp only[G2];refine(vZ (K:=K) hK (s.ext hb u) o hl hn).Am ?_;rintro _ h2 ⟨rfl,B⟩;have C:=B.hb o;have s2:=(s.ext hb u).ext o B;rw[show Bz [(.int .u8 0)] 5 1 0 [] h2=some (.slice h2.next 0 0 0 false,h2.new (.cells [] 5))from rfl,Au];have J:Ext h2 (h2.new (.cells [] 5)):=Av.new _ _;have O:=s2.ext C J;have n3:(h2.new (.cells [] 5)).next=h2.next+1:=rfl
 generalize h2.new (.cells [] 5)=h3 at J O n3⊢;have T:=J.hb C;refine(Yy (b:=h2.next) (e:=5) O.len (by omega) O.cells (by rw[Bg,bk]) 0).Am ?_;rintro v h4 ⟨q',r4,U,l4⟩;have W:=U.hb T;rw[show ∀k:EV->R,So .u8 (Nk .u32 (Fl l)) k=k (Nk .u8 (Fl l%256))from fun k=>vX];rw[show ∀k:EV->R,iK (bin TT .shr 94) (Nk .u32 (Fl l)) (.int .u64 8) k=k (Nk .u32 (Fl l/256))from fun k=>tw (s:=8) (by decide)];rw[show ∀k:EV->R,So .u8 (Nk .u32 (Fl l/256)) k=k (Nk .u8 (Fl l/256%256))from fun k=>vX];rw[show ∀k:EV->R,iK (bin TT .shr 94) (Nk .u32 (Fl l)) (.int .u64 16) k=k (Nk .u32 (Fl l/65536))from fun k=>tw (s:=16) (by decide)];rw[show ∀k:EV->R,So .u8 (Nk .u32 (Fl l/65536)) k=k (Nk .u8 (Fl l/65536%256))from fun k=>vX];rw[show ∀k:EV->R,iK (bin TT .shr 94) (Nk .u32 (Fl l)) (.int .u64 24) k=k (Nk .u32 (Fl l/16777216))from fun k=>tw (s:=24) (by decide)];rw[show ∀k:EV->R,So .u8 (Nk .u32 (Fl l/16777216)) k=k (Nk .u8 (Fl l/16777216%256))from fun k=>vX];rw[Bre,Au];have L:Ext h4 (h4.new (.cells (Bj (Pa 4 (Fl l))) 5)):=Av.new _ _;have e5:Bj (Pa 4 (Fl l)) = [Nk .u8 (Fl l%256),Nk .u8 (Fl l/256%256),Nk .u8 (Fl l/65536%256),Nk .u8 (Fl l/16777216%256)]:=by rw[Bt9];rfl
 rw[e5]at L;have r5:Cd (h4.new (.cells [Nk .u8 (Fl l%256),Nk .u8 (Fl l/256%256),Nk .u8 (Fl l/65536%256),Nk .u8 (Fl l/16777216%256)] 5)) v q' 5 1 l.length (Bj l):=r4.frame fun y=>L.get _ (W _ _ (r4.block y)) id
 have g5:(h4.new (.cells [Nk .u8 (Fl l%256),Nk .u8 (Fl l/256%256),Nk .u8 (Fl l/65536%256),Nk .u8 (Fl l/16777216%256)] 5)).get h4.next=some (.cells [Nk .u8 (Fl l%256),Nk .u8 (Fl l/256%256),Nk .u8 (Fl l/65536%256),Nk .u8 (Fl l/16777216%256)] 5):=Ad _ _
 have n5:(h4.new (.cells [Nk .u8 (Fl l%256),Nk .u8 (Fl l/256%256),Nk .u8 (Fl l/65536%256),Nk .u8 (Fl l/16777216%256)] 5)).next=h4.next+1:=rfl
 generalize h4.new (.cells [Nk .u8 (Fl l%256),Nk .u8 (Fl l/256%256),Nk .u8 (Fl l/65536%256),Nk .u8 (Fl l/16777216%256)] 5)=X at L r5 g5 n5⊢;have Y:O9 X 1 4 (.slice h4.next 0 4 4 false)=some (Bj (Pa 4 (Fl l))):=by
  show Yz X h4.next 0 4=_
  unfold Yz mA;rw[g5,e5];rfl
 obtain⟨h6,e6,r6,n6,c6⟩:=pX r5 rfl (by decide) (by decide) (by omega) Y (by rw[Bg,De]);rw[e6,Au];have hq:=l4 h0;have E:Ext h h6:=by
  refine((u.trans B).trans ((J.trans U).trans L)).then c6 fun j hj au=>?_
  have:=u.next;have:=B.next;have:=hj.2;omega
 refine .ret ⟨X.next,?_,E,E.hb hb,?_⟩
 ·rw[qY,aF,De];exact r6
 ·have:=u.next;have:=B.next;have:=U.next;omega
theorem Bri {a:Nat}(k:EV->R):J5 iX (bin TT .neq t) (Nk .u8 a) (Nk .u8 b) k=k (.bool (decide (¬a=b))):=by
 show k (iX .u8 (Int.ofNat a) (Int.ofNat b))=_;rw[FH,tP,ua];exact congrArg (fun b=>k (.bool b)) (eO.2 (not_congr ⟨Int.ofNat.inj,congrArg _⟩))
noncomputable def pI(l:List Nat):Bool:=decide (Pa 4 (Fl (l.take (l.length-4)))=l.drop (l.length-4))
def WO(h:Ab)(l:List Nat)(v:EV)(h':Ab):Prop:=Ext h h'/\HB h'/\((pI l=false/\v=.tuple [.Aq,I 11])\/(pI l=true/\∃y q',v=.tuple [y,I 0]/\Cd h' y q' 5 1 (l.take (l.length-4)).length (Bj (l.take (l.length-4)))/\h.next<=q'))
theorem Bgw {x y:EV}{u:Nat}{l:List Nat}(h4:4<l.length)(hn:l.length<=5000)(hl:∀b∈l,b<256)(h0:Ab):∀(m i:Nat) (h:Ab),4-i<m->i<=4->HB h->Ext h0 h->Bs h x b off l->Bs h y b u (l.drop (l.length-4))->(∀j (hj:j<i),(l.drop (l.length-4))[j]? = some (Fl (l.take (l.length-4))/256^j%256)) ->
 Ok (N9 K m x (I ((l.length-4:Nat):Int)) (Nk .u32 (Fl (l.take (l.length-4))/256^i)) y (I 4) (I i) h) (WO h0 l):=by
 intro m;have hd:(l.drop (l.length-4)).length=4:=by rw[bB];omega
 have hs:=vO (l:=l.take (l.length-4)) fun b hb=>hl b (b9 hb)
 induction m with
 | zero=>intro i h hm;omega
 | succ m ih=>
  intro i h hm hi hb E U W hj;simp only[N9,I,Ac,Aa];by_cases B:(i:Int)<4
  ·have o:i<(l.drop (l.length-4)).length:=by omega
   obtain⟨e1,e2⟩:=W.ix o;simp only[B,aC,Aa,LM,e1,e2];rw[wrap_u8];rw[Bri];by_cases J:(l.drop (l.length-4))[i]=Fl (l.take (l.length-4))/256^i%256
   ·simp only[J,aB,aA,Aa,LL]
    rw[show ∀k:EV->R,iK (bin TT .shr 94) (Nk .u32 (Fl (l.take (l.length-4))/256^i)) (.int .u64 8) k=k (Nk .u32 (Fl (l.take (l.length-4))/256^i/256))from fun k=>tw (s:=8) (by decide)];simp only[LK,I,Ac];rw[Cl,fO,<-fD];refine ih (i+1) h (by omega) (by omega) hb E U W fun j ad=>?_
    by_cases O:j=i
    ·subst O;rw[aD o,J]
    ·exact hj j (by omega)
   ·simp only[J,aR,aC,Aa]
    refine .ret ⟨E,hb,.inl ⟨aJ fun y=>J ?_,rfl⟩⟩;have:=congrArg (fun z=>z[i]?) y;simp only[Pa]at this;rw[aD o,bD,cP (by omega)]at this;exact(gQ this).symm
  ·have:i=4:=by omega
   subst this;simp only[B,aA,Aa,LJ];have ho:pI l=true:=aM (by
    apply eA;intro j;by_cases C:j<4
    ·rw[hj j C];unfold Pa;rw[bD,cP C];rfl
    ·rw[cC (by rw[De];omega),cC (by omega)])
   rw[show Bz [(.int .u8 0)] 5 1 0 [] h=some (.slice h.next 0 0 0 false,h.new (.cells [] 5))from rfl,Au];have L:Ext h (h.new (.cells [] 5)):=Av.new _ _;have X:=U.ext hb L;have n3:(h.new (.cells [] 5)).next=h.next+1:=rfl
   generalize h.new (.cells [] 5)=h3 at L X n3⊢;have T:=L.hb hb;obtain⟨w,e3,Y⟩:=X.take (n:=l.length-4) (by omega);rw[e3];refine(Yy (b:=h.next) (e:=5) Y.len (by rw[bZ];omega) Y.cells (by rw[Bg,bk]) 0).Am ?_;rintro v af ⟨q',r4,x4,l4⟩;refine .ret ⟨E.trans (L.trans x4),x4.hb T,.inr ⟨ho,v,q',rfl,r4,?_⟩⟩;have:=l4 (by rw[bZ];omega);have:=E.next
   omega
theorem Bog{r:Nat}{l:List Nat}(hK:10000<K)(s:Bs h (.slice b off l.length r op) b off l)(hb:HB h)(E:∀b∈l,b<256)(h4:4<l.length)(L:l.length<=5000):
 Ok (W9 K Uh (.slice b off l.length r op) h) (WO h l):=by
 unfold Uh;simp only[W9,Aa];obtain⟨Y,O,B,J,_⟩:=nW h (.cells Be 96);rw[O];have o:=B.hb hb;have s1:=s.ext hb B;have T:=o _ _ J;simp only[Ac];rw[Cl,show(l.length:Int)-4=((l.length-4:Nat):Int) by omega,show decide (((l.length-4:Nat):Int)<0)=false from aJ (by omega)];simp only[Aa,LN,Cp T,As,Cy J rfl,Aj Pr];obtain⟨w,e3,U⟩:=s1.take (n:=l.length-4) (by omega);rw[e3];refine Ok.bE (vZ (K:=K) hK U.lift (C8 o) (fun b hb=>E b (b9 hb)) (by rw[bZ];omega)) (fun _ _ p=>p.2) ?_;rintro _ h2 W ⟨rfl,_⟩ sm u;have C:=u.hb o;obtain⟨e5,X⟩:=(s1.ext o u).drop (n:=l.length-4) (by omega);rw[e5];simp only[Aa];have:=Bgw (K:=K) (x:=.slice b off l.length r op) h4 L E h K 0 W (by omega) (by decide) C (B.trans u) (s1.ext o u) X (fun j hj=>absurd hj (cI _));rw[Nat.pow_zero,Nat.div_one]at this;rw[show l.length-(l.length-4)=4 by omega]at this⊢;exact this
structure Rd(h:Ab)(R q off:Nat)(l:List Nat):Prop where
 Ou:∃s,h.get R=some (.cells [s,.bool false] 231)/\lenOf s=some l.length/\(0<l.length->s=.slice q off l.length l.length true/\Bs h s q off l)
 ne:q<R
theorem Rd.ext{R q:Nat}{l:List Nat}(d:Rd h R q off l)(hb:HB h)(c:Ext h h'):Rd h' R q off l:=by
 obtain⟨s,g,e,f⟩:=d.Ou;exact⟨⟨s,c.at hb g,e,fun y=>⟨(f y).1,(f y).2.ext hb c⟩⟩,d.ne⟩
theorem vP{x:EV}{l:List Nat}(s:Bs h x b off l)(hb:HB h)(h0:0<l.length:=by omega)(U:l.length<=5000:=by omega):
 Ok (oT K x h) fun v h'=>∃R q,v=.ptr R 0/\Rd h' R q 0 l/\Ext h h'/\HB h'/\h.next<=q:=by
 simp only[oT,dr];rw[show Bz [(.int .u8 0)] 5 1 0 [] h=some (.slice h.next 0 0 0 false,h.new (.cells [] 5))from rfl,Au];have u:Ext h (h.new (.cells [] 5)):=Av.new _ _;have s1:=s.ext hb u;generalize h.new (.cells [] 5)=W at u s1⊢;have B:=u.hb hb;refine(Yy (b:=h.next) (e:=5) s1.len (by omega) s1.cells (by rw[Bg,bk]) 0).Am ?_;rintro v h2 ⟨q',C,L,O⟩;have o:=L.hb B;have E:=C.slice h0;subst E;rw[Ax (l:=[.slice q' 0 l.length l.length true,.bool false]) rfl];simp only[Aa];have J:Ext h2 (h2.new (.cells [.slice q' 0 l.length l.length true,.bool false] 231)):=Av.new _ _;have T:=(C.bs h0).ext o J;refine .ret ⟨h2.next,q',rfl,⟨⟨_,Ad _ _,rfl,fun _=>⟨rfl,T⟩⟩,o _ _ (C.block h0)⟩,u.trans (L.trans J),J.hb o,?_⟩;have:=O h0;have:=u.next
 omega
theorem WQ{R q:Nat}{l:List Nat}(d:Rd h R q off l)(hb:HB h)(h0:0<n)(E:n<=l.length):
 Ok (J8 K (.ptr R 0) (I n) h) fun v h'=>Bs h' v q off (l.take n)/\Rd h' R q (off+n) (l.drop n)/\Av (fun i=>i=R) h h'/\HB h':=by
 obtain⟨s,g,e,f⟩:=d.Ou;obtain⟨rfl,s1⟩:=f (by omega);have C:=hb _ _ g;have J:R≠q:=by have:=d.ne;omega
 simp only[J8,Aa,Cw g rfl,Ac,I];rw[show decide ((n:Int)<0)=false from aJ (by omega)];simp only[Aa,ID,Ac,Cw g rfl];rw[show decide ((l.length:Int)<(n:Int))=false from aJ (by omega)];simp only[Aa,IC,IB,Cw g rfl];have e1:∀k:EV->Go.Ev.R,iD 1 (.slice q off l.length l.length true) none (some (.int .i64 (n:Int))) (some (.int .i64 (n:Int))) k=k (.slice q off n n false):=fun k=>by
  have:iV (.slice q off l.length l.length true) 1 none (some (.int .i64 (n:Int))) (some (.int .i64 (n:Int)))=some (.slice q off n n false):=by
   have b1:bound (some (.int .i64 (n:Int))) l.length 0=some n:=by
    show Bb (Nat.ble n l.length) (some n) none=_;rw[aQ E,Ak]
   have b2:bound (some (.int .i64 (n:Int))) n 0=some n:=by
    show Bb (Nat.ble n n) (some n) none=_;rw[aQ (aE _),Ak]
   unfold iV;simp only[b1,b2];show some (EV.slice q (Bb (Nat.beq n 0) off (Nat.add off (Nat.mul 0 1))) n n false)=_;rw[show Nat.add off (Nat.mul 0 1)=off from rfl];cases Nat.beq n 0<;>rfl
  unfold iD;rw[this];rfl
 rw[e1];obtain⟨r',W,o,row,f1,f0,f2,f3,f4,f5⟩:=s1.Ou;have u:(l.take n).length=n:=by rw[bZ,eV E]
 have B:(l.drop n).length=l.length-n:=bB;have U:Bs h (.slice q off n n false) q off (l.take n):=by
  refine⟨n,false,o,row,by rw[u],by rw[u];exact aE _,f2,f3,by rw[u];omega,?_⟩;rw[u];have:=congrArg (fun z=>z.take n) f5;simp only[List.take_take,eV E]at this;rw[this];unfold Bj;rw[List.map_take]
 have put:∀w:EV,(h.put R (.cells [w,.bool false] 231)).get q=h.get q:=fun w=>Af _ J
 rcases cb n l.length with L|X
 ·obtain⟨e2,s2⟩:=s1.drop L
  rw[e2];refine Ok.gT g rfl rfl (by show 0<2;decide) ?_;refine .ret ⟨U.frame (put _),⟨⟨_,Ae _ _ _,by rw[B];rfl,fun _=>⟨by rw[B],s2.frame (put _)⟩⟩,d.ne⟩,(Av.refl (S:=fun i=>i=R) h).Ar (.inl rfl) C _,hb.put C _⟩
 ·have O:n=l.length:=by omega
  subst O;have e2:∀k:EV->Go.Ev.R,iD 1 (.slice q off l.length l.length true) (some (.int .i64 (l.length:Int))) none none k=k (.tail q (off+l.length) off):=fun k=>by
   have:iV (.slice q off l.length l.length true) 1 (some (.int .i64 (l.length:Int))) none none=some (.tail q (off+l.length) off):=by
    have b1:bound (some (.int .i64 (l.length:Int))) l.length 0=some l.length:=by
     show Bb (Nat.ble l.length l.length) (some l.length) none=_;rw[aQ (aE _),Ak]
    have b2:bound none l.length l.length=some l.length:=rfl;unfold iV;simp only[b1,b2];rw[Ak];have z1:Nat.beq l.length 0=false:=by
     cases T:Nat.beq l.length 0 with
     | false=>rfl
     | true=>have:=aL T;omega
    have Y:Nat.ble (Nat.succ l.length) l.length=false:=by
     cases T:Nat.ble (Nat.succ l.length) l.length with
     | false=>rfl
     | true=>have:=bL T;omega
    rw[z1,Bm,Y,Bm,cQ,Ak,Ak,show Nat.mul l.length 1=l.length from bk _];rfl
   unfold iD;rw[this];rfl
  rw[e2];refine Ok.gT g rfl rfl (by show 0<2;decide) ?_;refine .ret ⟨U.frame (put _),⟨⟨_,Ae _ _ _,by rw[B,fT];rfl,fun y=>by rw[B,fT]at y;exact absurd y (bN _)⟩,d.ne⟩,(Av.refl (S:=fun i=>i=R) h).Ar (.inl rfl) C _,hb.put C _⟩
def P7:List Nat->Nat
 | []=>0
 | b::r=>b+256*P7 r
theorem zU:∀(a:List Nat) (b:Nat),P7 (a++[b])=P7 a+256^a.length*b
 | [],b=>by simp[P7]
 | x::a,b=>by
  have:=zU a b;simp only[List.cons_append,P7,this,bG,fD];rw[Nat.mul_add,<-Nat.add_assoc,gN (256^a.length) 256,Nat.mul_assoc]
theorem zV:∀(a:List Nat),(∀b∈a,b<256)->P7 a<256^a.length
 | [],_=>by simp[P7]
 | x::a,h=>by
  have o:=h x (aW ..);have h2:=zV a fun b hb=>h b (aU _ hb)
  simp only[P7,bG,fD];omega
theorem wrap_u64(a:Nat):Dr .u64 (Int.ofNat a)=Int.ofNat (a%18446744073709551616):=by
 rw[Nl];rfl
theorem Bpz {a s:Nat}(hs:s<=64)(hb:a*2^s<9223372036854775808){k:EV->Go.Ev.R}:iK (bin TT .shl t) (.int .i64 (Int.ofNat a)) (.int .u64 (Int.ofNat s)) k=k (Nk .i64 (a*2^s)):=by
 show k (.int .i64 (Dr .i64 (Int.mul (.ofNat a) (.ofNat (Nat.pow 2 (Bb (Nat.ble s 64) s 64))))))=_;rw[aQ hs,Ak];have:Int.mul (.ofNat a) (.ofNat (Nat.pow 2 s))=((a*2^s:Nat):Int):=rfl;rw[this,Cl];rfl
theorem Brn {a:Nat}(h:a||| b<9223372036854775808){k:EV->Go.Ev.R}:iK (bin TT .or t) (.int .i64 (Int.ofNat a)) (.int .i64 (Int.ofNat b)) k=k (Nk .i64 (a||| b)):=by
 show k (.int .i64 (Dr .i64 (.ofNat (Nat.lor a b))))=_;have:Int.ofNat (Nat.lor a b)=((a||| b:Nat):Int):=rfl;rw[this,Cl];rfl
theorem Bl7{x:EV}{l:List Nat}(L:∀b∈l,b<256)(U:l.length<=7):∀(m i:Nat) (h:Ab),l.length-i<m->i<=l.length->Bs h x b off l ->
 Ks K m (Nk .i64 (P7 (l.take i))) x (I l.length) (I i) h=some (Nk .i64 (P7 l),h):=by
 intro m;induction m with
 | zero=>intro i h hm;omega
 | succ m ih=>
  intro i h hm T s;simp only[Ks,I,Ac,Aa];by_cases B:(i:Int)<l.length
  ·have o:i<l.length:=by omega
   obtain⟨e1,e2⟩:=s.ix o;have hb:=L _ (bH o);simp only[B,aC,Aa,JY,e1,e2,Ac];have hp:(256:Nat)^i=2^(8*i):=by rw[Nat.pow_mul]
   have u:(256:Nat)^i<=256^6:=fm (by decide) (by omega);have u:(256:Nat)^i<=281474976710656:=u;have hmul:l[i]*256^i<=255*281474976710656:=gW (by omega) u;rw[show Dr .i64 (Int.ofNat l[i])=Int.ofNat l[i]from Cl (by show _<=((l[i]:Nat):Int);omega) (by show((l[i]:Nat):Int)<=_;omega)];rw[show(8:Int)*(i:Int)=((8*i:Nat):Int) by omega,Cl];rw[show Dr .u64 ((8*i:Nat):Int)=Int.ofNat (8*i)from by have:=wrap_u64 (8*i);rw[gE (by omega)]at this;exact this];rw[Bpz (by omega) (by rw[<-hp];omega)];have O:(l.take i).length=i:=by rw[bZ,eV T]
   have C:P7 (l.take i)<2^(8*i):=by
    have:=zV (l.take i) fun b hb=>L b (b9 hb)
    rw[O,hp]at this;exact this
   have E:P7 (l.take i)||| l[i]*2^(8*i)=P7 (l.take (i+1)):=by
    rw[fV,aD o];show _=P7 (l.take i++[l[i]]);rw[zU,O,Nat.or_comm,gN l[i],<-Nat.two_pow_add_eq_or_of_lt C,hp,Nat.add_comm]
   have J:P7 (l.take (i+1))<9223372036854775808:=by
    have:=zV (l.take (i+1)) fun b hb=>L b (b9 hb)
    have h2:(256:Nat)^(l.take (i+1)).length<=256^7:=fm (by decide) (by rw[bZ];omega);have W:(256:Nat)^7=72057594037927936:=by decide
    omega
   rw[Brn (by rw[E];exact J),E];simp only[JX,I,Ac];rw[Cl];exact ih (i+1) h (by omega) (by omega) s
  ·have:i=l.length:=by omega
   subst this;simp only[B,aA,Aa,JW,bW]
theorem Ll{R q w:Nat}{l:List Nat}(d:Rd h R q off l)(hb:HB h)(hK:1000<K)(B:1<=w)(E:w<=7)(u:w<=l.length)(C:∀b∈l,b<256):
 Ok (E1 K (.ptr R 0) (I w) h) fun v h'=>v=Nk .i64 (P7 (l.take w))/\Rd h' R q (off+w) (l.drop w)/\Av (fun i=>i=R) h h'/\HB h':=by
 simp only[E1,dr];rw[wF,aM ⟨by omega,by omega⟩];simp only[Aa,JZ];refine(WQ (K:=K) d hb B u).Am ?_;rintro v h2 ⟨s,d2,c2,o⟩;rw[s.Hg];have J:(l.take w).length=w:=by rw[bZ,eV u]
 have:=Bl7 (K:=K) (l:=l.take w) (fun b hb=>C b (b9 hb)) (by omega) K 0 h2 (by omega) (cZ _) s;rw[show EV.int .i64 0=Nk .i64 (P7 ((l.take w).take 0))from rfl];exact⟨_,_,this,rfl,d2,c2,o⟩
theorem WR{R q:Nat}{l:List Nat}(d:Rd h R q off l)(hb:HB h)(h0:0<n)(o:n<=l.length:=by omega):
 Ok (Ma K (.ptr R 0) (I n) h) fun v h'=>Bs h' v q off (l.take n)/\Rd h' R q (off+n) (l.drop n)/\Av (fun i=>i=R) h h'/\HB h':=by
 simp only[Ma,dr];refine(WQ (K:=K) d hb h0 o).Am ?_;intro v h2 p;exact .ret p
theorem Bpr{R q:Nat}(d:Rd h R q off []):Rk K (.ptr R 0) h=some (I 0,h):=by
 obtain⟨s,g,e,f⟩:=d.Ou;simp only[Rk,Aa,Cw g rfl,Ac];have:∀k:EV->Go.Ev.R,Hg s k=k (I 0):=fun k=>by unfold Hg;rw[e];rfl
 rw[this];simp only[I,Ac];rfl
structure Fr where
 kind:Int
 Al:Int
 off:Int
 Ao:Int
 seq:Int
 body:List Nat
def Fr.cells(f:Fr):List EV:=[I f.kind,I f.Al,I f.off,I f.Ao,I f.seq]++Bj f.body
structure Fr.Wf(f:Fr):Prop where
 len:f.body.length=44
 u8:∀b∈f.body,b<256
def hY(f:Fr):Bool:=wi f.kind 1 5&&(wi f.Al 0 65535&&(wi f.off 0 65535&&(wi f.Ao 1 4294967295&&wi f.seq 0 281474976710655)))
theorem Qn(n a b:Int)(h:Ab):N2 K (.int .i64 n) (.int .i64 a) (.int .i64 b) h=some (.bool (wi n a b),h):=by
 simp only[N2,Ac,Aa];by_cases o:a<=n
 ·simp only[o,aC,Aa,Ac,xC,wi,bI]
 ·simp only[o,aA,Aa,xC,wi,av]
theorem Fr.Bc {f:Fr}(w:f.Wf):f.cells.length=49:=by
 unfold Fr.cells;rw[aF,Bg,w.len];rfl
theorem zW(f:Fr):Ok (J6 K (.agg f.cells) h) fun v h'=>v=.bool (hY f)/\Ext h h':=by
 simp only[J6,Aa];obtain⟨L,B,o,u,_⟩:=nW h (.cells f.cells 167);rw[B];have l0:f.cells[0]? = some (I f.kind):=rfl;have l1:f.cells[1]? = some (I f.Al):=rfl;have C:f.cells[2]? = some (I f.off):=rfl;have E:f.cells[3]? = some (I f.Ao):=rfl;have J:f.cells[4]? = some (I f.seq):=rfl;simp only[Cw u rfl,Aa,l0,I,Qn,Ac];unfold hY;cases wi f.kind 1 5 with
 | false=>simp only[Aa,Sc,Nd,J0,Hj,Ac];exact .ret ⟨rfl,o⟩
 | true=>
 simp only[Aa,Cw u rfl,l1,I,Qn,Ac,Sc];cases wi f.Al 0 65535 with
 | false=>simp only[Aa,Nd,J0,Hj,Ac];exact .ret ⟨rfl,o⟩
 | true=>
 simp only[Aa,Cw u rfl,C,I,Qn,Ac,Nd];cases wi f.off 0 65535 with
 | false=>simp only[Aa,J0,Hj,Ac];exact .ret ⟨rfl,o⟩
 | true=>
 simp only[Aa,Cw u rfl,E,I,Qn,Ac,J0];cases wi f.Ao 1 4294967295 with
 | false=>simp only[Aa,Hj,Ac];exact .ret ⟨rfl,o⟩
 | true=>
 simp only[Aa,Cw u rfl,J,I,Qn,Ac,Hj];exact .ret ⟨by simp only[bI],o⟩
def j'(f:Fr):List Nat:=Pa 1 f.kind.toNat++Pa 1 1++Pa 2 f.Al.toNat++Pa 2 f.off.toNat++Pa 4 f.Ao.toNat++Pa 6 f.seq.toNat++f.body
noncomputable def L6(f:Fr):List Nat:=j' f++Pa 4 (Fl (j' f))
theorem Jb(w a:Nat):∀b∈Pa w a,b<256:=fun b hb=>by
 unfold Pa at hb;obtain⟨i,_,rfl⟩:=cW.1 hb;exact Nat.mod_lt _ (by decide)
theorem qT {f:Fr}(w:f.Wf):(j' f).length=60:=by
 unfold j';simp only[aF,De,w.len]
theorem ot {f:Fr}(w:f.Wf):(L6 f).length=64:=by
 unfold L6;rw[aF,qT w,De]
theorem WS {f:Fr}(w:f.Wf):∀b∈j' f,b<256:=fun b hb=>by
 unfold j' at hb;simp only[bR]at hb;rcases hb with(((((hb|hb)|hb)|hb)|hb)|hb)|hb
 ·exact Jb _ _ b hb
 ·exact Jb _ _ b hb
 ·exact Jb _ _ b hb
 ·exact Jb _ _ b hb
 ·exact Jb _ _ b hb
 ·exact Jb _ _ b hb
 ·exact w.u8 b hb
theorem wO {f:Fr}(w:f.Wf):∀b∈L6 f,b<256:=fun b hb=>by
 unfold L6 at hb;rcases bR.1 hb with hb|hb
 ·exact WS w b hb
 ·exact Jb _ _ b hb
theorem Xo {w:Nat}{b:Int}(h0:0<=v)(hb:v<=b)(hw:b<(256^w:Nat)):fits w v=true:=aM ⟨h0,by omega⟩
theorem BX{f:Fr}(w:f.Wf)(hr:hY f=true)(hb:HB h)(hK:10000<K):
 Ok (Ya K Uh (.agg f.cells) h) fun v h'=>v=.tuple [.agg (Bj (L6 f)),I 0]/\Ext h h':=by
 have au:=hr;simp only[hY,aS]at au;obtain⟨r1,r2,r3,r4,r5⟩:=au;obtain⟨a1,b1⟩:=Ez.1 r1;obtain⟨a2,b2⟩:=Ez.1 r2;obtain⟨a3,b3⟩:=Ez.1 r3;obtain⟨a4,b4⟩:=Ez.1 r4;obtain⟨a5,b5⟩:=Ez.1 r5;have l0:f.cells[0]? = some (I f.kind):=rfl;have l1:f.cells[1]? = some (I f.Al):=rfl;have l2:f.cells[2]? = some (I f.off):=rfl;have l3:f.cells[3]? = some (I f.Ao):=rfl;have l4:f.cells[4]? = some (I f.seq):=rfl;have aw:=Fr.Bc w;unfold Uh;simp only[Ya,Aa];have x1:Ext h (((h.new (.cells Be 96)).new (.cells f.cells 167)).new (.cells Vb 30)):=((Av.new _ _).Da _).Da _;have C:(((h.new (.cells Be 96)).new (.cells f.cells 167)).new (.cells Vb 30)).get h.next=some (.cells Be 96):=by
  rw[Ay _ (by show h.next<h.next+1+1;omega),Ay _ (aO _)];exact Ad _ _
 have B:(((h.new (.cells Be 96)).new (.cells f.cells 167)).new (.cells Vb 30)).get (h.next+1)=some (.cells f.cells 167):=by
  rw[Ay _ (by show h.next+1<h.next+1+1;omega)];exact Ad _ _
 have u:(((h.new (.cells Be 96)).new (.cells f.cells 167)).new (.cells Vb 30)).get (h.next+2)=some (.cells Vb 30):=Ad _ _;have n1:(((h.new (.cells Be 96)).new (.cells f.cells 167)).new (.cells Vb 30)).next=h.next+3:=rfl
 rw[show(h.new (.cells Be 96)).next=h.next+1 from rfl,show((h.new (.cells Be 96)).new (.cells f.cells 167)).next=h.next+2 from rfl,show List.replicate 64 (EV.int .u8 0)=Vb from rfl];generalize ((h.new (.cells Be 96)).new (.cells f.cells 167)).new (.cells Vb 30)=h1 at x1 C B u n1⊢;have W:=x1.hb hb;rw[Cy B rfl,Aj aw];simp only[G2];refine(zW (K:=K) f).Am ?_;rintro _ h2 ⟨rfl,x2⟩;rw[hr];simp only[Aa,LY];have X:=x2.hb W;have a8:=x1.trans x2;have C:=x2.at W C;have B:=x2.at W B;have u:=x2.at W u;have n2:h.next+3<=h2.next:=by have:=x2.next;omega
 have p0:lU (h2.new (.cells [.Aq,.bool false] 233)) h2.next 233 [] false:=⟨.Aq,0,Ad _ _,.nil _ _ _ _,fun y=>absurd y (bN _)⟩
 have x3:Ext h2 (h2.new (.cells [.Aq,.bool false] 233)):=Av.new _ _;have C:=x3.at X C;have B:=x3.at X B;have u:=x3.at X u;have L:=x3.hb X;have ax:=a8.trans x3;generalize h2.new (.cells [.Aq,.bool false] 233)=h3 at p0 x3 C B u L ax⊢;generalize hP:h2.next=P at p0 n2⊢
 have up:∀{ha hc:Ab},Ext h ha->Av (fun i=>P<=i) ha hc->Ext h hc:=fun x c=>x.then c fun j hj hl=>by
  have hj:P<=j:=hj;omega
 have E:∀{ha hc:Ab} {i:Nat} {o:D3},Av (fun i=>P<=i) ha hc->HB ha->ha.get i=some o->i<P->hc.get i=some o:=fun c hb g hi=>c.at hb g (by omega)
 simp only[Cw B rfl,l0];simp only[G2];refine(Mf (K:=K) (w:=1) (by omega) p0 L (by simp) (by decide) (by decide) (v:=f.kind)).Am ?_;rintro _ h5 ⟨p,c,Y⟩;rw[Xo (b:=5) (by omega) b1 (by decide),aI rfl]at p;have x5:=up ax c;have C:=E c L C (by omega);have B:=E c L B (by omega);have u:=E c L u (by omega);refine(Mf (K:=K) (w:=1) (by omega) p Y (by simp[De]) (by decide) (by decide) (v:=1)).Am ?_;rintro _ h6 ⟨p,c,aa⟩;rw[Xo (b:=1) (by omega) (cO _) (by decide),aI rfl]at p;have x6:=up x5 c;have C:=E c Y C (by omega);have B:=E c Y B (by omega);have u:=E c Y u (by omega);simp only[Aa,Cw B rfl,l1];refine(Mf (K:=K) (w:=2) (by omega) p aa (by simp[De]) (by decide) (by decide) (v:=f.Al)).Am ?_;rintro _ h7 ⟨p,c,ab⟩;rw[Xo (b:=65535) a2 b2 (by decide),aI rfl]at p;have x7:=up x6 c;have C:=E c aa C (by omega);have B:=E c aa B (by omega);have u:=E c aa u (by omega);simp only[Aa,Cw B rfl,l2];refine(Mf (K:=K) (w:=2) (by omega) p ab (by simp[De]) (by decide) (by decide) (v:=f.off)).Am ?_;rintro _ h8 ⟨p,c,ad⟩;rw[Xo (b:=65535) a3 b3 (by decide),aI rfl]at p;have x8:=up x7 c;have C:=E c ab C (by omega);have B:=E c ab B (by omega);have u:=E c ab u (by omega);simp only[Aa,Cw B rfl,l3];refine(Mf (K:=K) (w:=4) (by omega) p ad (by simp[De]) (by decide) (by decide) (v:=f.Ao)).Am ?_;rintro _ h9 ⟨p,c,ae⟩;rw[Xo (b:=4294967295) (by omega) b4 (by decide),aI rfl]at p;have x9:=up x8 c;have C:=E c ad C (by omega);have B:=E c ad B (by omega);have u:=E c ad u (by omega);simp only[Aa,Cw B rfl,l4];refine(Mf (K:=K) (w:=6) (by omega) p ae (by simp[De]) (by decide) (by decide) (v:=f.seq)).Am ?_;rintro _ az ⟨p,c,O⟩;rw[Xo (b:=281474976710655) a5 b5 (by decide),aI rfl]at p;have a9:=up x9 c;have C:=E c ae C (by omega);have B:=E c ae B (by omega);have u:=E c ae u (by omega)
 try simp only[Aa]
 rw[show ∀k:EV->R,Nq 44 1 (.ptr (h.next+1) 5) none none none k=k (.slice (h.next+1) 5 44 44 false)from fun k=>rfl];have bb:O9 az 1 44 (.slice (h.next+1) 5 44 44 false)=some (Bj f.body):=by
  show Yz az (h.next+1) 5 44=_;unfold Yz mA;rw[B];show Og f.cells 5 44=_;rw[Fx (by rw[aw];decide)];show some (List.take 44 (Bj f.body))=_;rw[bS (by rw[Bg,w.len];decide)]
 refine(WM (K:=K) (n:=44) p O (by simp[De]) rfl (by decide) (by decide) bb w.len).Am ?_;rintro _ cG ⟨p,c,T⟩;have bf:=up a9 c;have C:=E c O C (by omega);have u:=E c O u (by omega);have ep:([]++Pa 1 f.kind.toNat++Pa 1 (1:Int).toNat++Pa 2 f.Al.toNat++Pa 2 f.off.toNat++Pa 4 f.Ao.toNat++Pa 6 f.seq.toNat++f.body)=j' f:=by
  unfold j';rw[cV];rfl
 have a0:∀b:Bool,(b||!true)=b:=by decide
 rw[ep]at p;simp only[a0]at p;refine(WN (K:=K) p T (by rw[qT w];decide)).Am ?_;rintro _ cT ⟨y,q',rfl,ry,U,ag,lq⟩;have C:=U.at T C;have u:=U.at T u;simp only[Aa,I,Ac];simp only[aB,aA,Aa,LX];rw[Cy C rfl,Aj Pr];simp only[G2];have ah:0<(j' f).length:=by rw[qT w];decide
 refine(Bpd (K:=K) hK (ry.bs ah) ag (WS w) ah (by rw[qT w];decide)).Am ?_;rintro v aj ⟨q2,af,ai,a6,c6⟩;have af:Cd aj v q2 5 1 (L6 f).length (Bj (L6 f)):=af;have u:=ai.at ag u;have J:=ot w;have bn:=af.slice (by rw[J];decide);subst bn;rw[show ∀k:EV->R,oJ 64 (.slice q2 0 (L6 f).length (L6 f).length true) k=k (.ptr q2 0)from fun k=>by rw[J];rfl];rw[Cy (af.block (by rw[J];decide)) rfl,Aj (by rw[Bg,J])];simp only[G2];refine Ok.st (Bj (L6 f)) u rfl (by show Ga (Bj (L6 f))=64;rw[Bh,Bg,J]) (Bn (by rw[Kq];show 64=(Bj (L6 f)).length;rw[Bg,J])) ?_;have bo:(aj.put (h.next+2) (.cells (Bj (L6 f)) 30)).get (h.next+2)=some (.cells (Bj (L6 f)) 30):=Ae _ _ _;rw[Ej bo kz.1 kz.2 (by rw[Bg,J])];have xx:Ext h aj:=bf.trans (U.trans ai);exact .ret ⟨rfl,xx.Ar (.inr (by omega)) (a6 _ _ u) _⟩
variable {f:Fr}
theorem Ok.kP{o:Nat}{l:List EV}{v:EV}(u:h.get i=some (.cells l t))(hb:HB h)(hp:v.plain=true)(B:v.cells = [v])(C:o<l.length)
 (E:∀h',h'.get i=some (.cells (l.set o v) t)->Av (fun j=>j=i) h h'->HB h'->Ok (kk h') Q):Ok (f_ 1 (.ptr i o) v h kk) Q:=by
 have lt:=hb _ _ u;exact Ok.gT u hp B C (E _ (Ae _ _ _) ((Av.refl (S:=fun j=>j=i) h).Ar (.inl rfl) lt _) (hb.put lt _))
theorem rI:∀(hd Br new:List EV),Br.length=new.length->F0 (hd++Br) hd.length new=some (hd++new)
 | [],Br,new,h=>by
  have:=Bn (l:=Br) (vs:=new) h;rw[U7]at this;exact this
 | a::hd,Br,new,h=>by
  have ih:=rI hd Br new h;show Bb (Nat.beq (hd.length+1) 0) _ (match F0 (hd++Br) hd.length new with|some x=>some (a::x)|none=>none)=_;rw[show Nat.beq (hd.length+1) 0=false from rfl,Bm,ih];rfl
theorem zX{r:Nat}{t:TypeId}{hd Br new:List EV}{y:EV}(g:h.get i=some (.cells (hd++Br) t))(B:lenOf y=some n)(C:0<n)(u:O9 h 1 n y=some new)(E:new.length=n)(J:Br.length=n):
 builtin TT .copy #[173,173] [.slice i hd.length n r op,y] h=some (I n,h.put i (.cells (hd++new) t)):=by
 have hu:TT.Tv 173=some (.slice 5):=by kernel_rfl
 have hs:TT.size 5=some 1:=by kernel_rfl
 have hb:Nat.ble n n=true:=aQ (aE _);have h0:Nat.beq n 0=false:=by cases n with|zero=>omega|succ n=>rfl
 have hw:Ml h i hd.length new=some (h.put i (.cells (hd++new) t)):=by
  unfold Ml;rw[g];simp only;rw[rI hd Br new (by omega)]
 rw[tF]at u;have o:lenOf (.slice i hd.length n r op)=some n:=rfl;unfold builtin;simp only[hu,hs,o,B,hb,Ak,h0,Bm,u,hw];rfl
theorem Rd.chg{R q:Nat}{l:List Nat}{S:Nat->Prop}(d:Rd h R q off l)(hb:HB h)(c:Av S h h')(o:¬S q)(u:¬S R):Rd h' R q off l:=by
 obtain⟨s,g,e,f⟩:=d.Ou;exact⟨⟨s,c.at hb g u,e,fun y=>⟨(f y).1,(f y).2.frame (c.get _ ((f y).2.lt hb) o)⟩⟩,d.ne⟩
def Fr.zero:Fr:=⟨0,0,0,0,0,List.replicate 44 0⟩
theorem Fr.H6:List.replicate 5 (EV.int .i64 0)++List.replicate 44 (EV.int .u8 0)=Fr.zero.cells:=by kernel_rfl
def lW(p:List Nat):Fr:=⟨P7 (p.take 1),P7 (((p.drop 1).drop 1).take 2),P7 ((((p.drop 1).drop 1).drop 2).take 2),P7 (((((p.drop 1).drop 1).drop 2).drop 2).take 4),P7 ((((((p.drop 1).drop 1).drop 2).drop 2).drop 4).take 6),(((((((p.drop 1).drop 1).drop 2).drop 2).drop 4).drop 6).take 44)⟩
noncomputable def Wz(s:List Nat):Fr × Int:=
 if pI s=false then(Fr.zero,11)else
 if P7 (((s.take 60).drop 1).take 1)=1/\hY (lW (s.take 60))=true then(lW (s.take 60),0)else(Fr.zero,10)
theorem qU:TT.size 167=some 49/\TT.agg 167=some true:=⟨by kernel_rfl,by kernel_rfl⟩
theorem WT {p:List Nat}(hp:p.length=60)(hu:∀b∈p,b<256):(lW p).Wf:=by
 refine⟨?_,fun b hb=>hu b ?_⟩
 ·simp only[lW,bZ,bB,hp];decide
 ·simp only[lW]at hb
  exact aH (aH (aH (aH (aH (aH (b9 hb))))))
theorem Fr.Gz:Fr.zero.Wf:=⟨by simp[Fr.zero],fun b hb=>by rw[bO hb];decide⟩
theorem Bpo {s:List Nat}(o:s.length=64)(hu:∀b∈s,b<256):(Wz s).1.Wf:=by
 unfold Wz;split
 ·exact Fr.Gz
 ·split
  ·exact WT (by rw[bZ,o];decide) fun b hb=>hu b (b9 hb)
  ·exact Fr.Gz
theorem Azq{s:List Nat}(hl:s.length=64)(hu:∀b∈s,b<256)(hb:HB h)(hK:10000<K):
 Ok (uo K Uh (.agg (Bj s)) h) fun v h'=>v=.tuple [.agg (Wz s).1.cells,I (Wz s).2]/\Ext h h':=by
 unfold Uh;simp only[uo,Aa];rw[Fr.H6];have x1:Ext h (((h.new (.cells Be 96)).new (.cells (Bj s) 30)).new (.cells Fr.zero.cells 167)):=((Av.new _ _).Da _).Da _;have g2:(((h.new (.cells Be 96)).new (.cells (Bj s) 30)).new (.cells Fr.zero.cells 167)).get h.next=some (.cells Be 96):=by
  rw[Ay _ (by show h.next<h.next+1+1;omega),Ay _ (aO _)];exact Ad _ _
 have g3:(((h.new (.cells Be 96)).new (.cells (Bj s) 30)).new (.cells Fr.zero.cells 167)).get (h.next+1)=some (.cells (Bj s) 30):=by
  rw[Ay _ (by show h.next+1<h.next+1+1;omega)];exact Ad _ _
 have u:(((h.new (.cells Be 96)).new (.cells (Bj s) 30)).new (.cells Fr.zero.cells 167)).get (h.next+2)=some (.cells Fr.zero.cells 167):=Ad _ _;have n1:(((h.new (.cells Be 96)).new (.cells (Bj s) 30)).new (.cells Fr.zero.cells 167)).next=h.next+3:=rfl
 rw[show(h.new (.cells Be 96)).next=h.next+1 from rfl,show((h.new (.cells Be 96)).new (.cells (Bj s) 30)).next=h.next+2 from rfl];generalize ((h.new (.cells Be 96)).new (.cells (Bj s) 30)).new (.cells Fr.zero.cells 167)=h1 at x1 g2 g3 u n1⊢;have a0:=x1.hb hb;have dp:=a0 _ _ g2;have zl:=Fr.Bc Fr.Gz;have fin:∀(f:Fr) (e:Int) (h5:Ab) (kk:Ab->R),(∀h',kk h'=Jk TT [.c (.ptr (h.next+2) 0) 167,.v (I e)] h')->HB h5->Ext h h5->h5.get (h.next+2)=some (.cells Fr.zero.cells 167)->f.Wf->(f,e)=Wz s ->
  Ok (f_ 49 (.ptr (h.next+2) 0) (.agg f.cells) h5 kk) fun v h'=>v=.tuple [.agg (Wz s).1.cells,I (Wz s).2]/\Ext h h':=by
  intro f e h5 kk dt ai x5 g5 wf he;have fl:=Fr.Bc wf;refine Ok.st f.cells g5 rfl (by show Ga f.cells=49;rw[Bh,fl]) (Bn (by rw[zl];exact fl.symm)) ?_;have g6:(h5.put (h.next+2) (.cells f.cells 167)).get (h.next+2)=some (.cells f.cells 167):=Ae _ _ _;rw[dt,Ej g6 qU.1 qU.2 fl,<-he];exact .ret ⟨rfl,x5.Ar (.inr (by omega)) (ai _ _ g5) _⟩
 simp only[Cp dp,As,Aa,Cy g2 rfl,Aj Pr];rw[show ∀k:EV->R,Nq 64 1 (.ptr (h.next+1) 0) none none none k=k (.slice (h.next+1) 0 64 64 false)from fun k=>rfl];have bs:Bs h1 (.slice (h.next+1) 0 s.length 64 false) (h.next+1) 0 s:=by
  refine⟨64,false,_,Bj s,rfl,by omega,g3,rfl,by rw[Bg];omega,?_⟩;rw[dF,<-Bg,bW]
 have ct:=Bog (K:=K) hK bs.lift (C8 a0) hu (by omega) (by omega);rw[hl]at ct;refine Ok.bE ct (fun _ _ p=>p.1) ?_;rintro v h2 h3 ⟨_,_,hv⟩ sm x3;have bf:=x3.hb a0;have u:=x3.at a0 u;have cv:=x1.trans x3;rcases hv with⟨ho,rfl⟩|⟨ho,y,q',rfl,ry,lq⟩
 ·simp only[Aa,I,Ac]
  simp only[show ¬((11:Int)=0) by decide,aR,aC,Aa];rw[Ax (l:=Fr.zero.cells) rfl];exact fin Fr.zero 11 h3 _ (fun _=>rfl) bf cv u Fr.Gz (by unfold Wz;rw[aI ho])
 ·have dw:¬pI s=false:=by rw[ho];simp
  simp only[Aa,I,Ac];simp only[aB,aA,Aa,LU];have dx:s.length-4=60:=by omega
  rw[dx]at ry;have cw:(s.take 60).length=60:=by rw[bZ,hl];decide
  have W:∀b∈s.take 60,b<256:=fun b hb=>hu b (b9 hb)
  have cx:Cd h3 y q' 5 1 (s.take 60).length (Bj (s.take 60)):=ry.frame fun _=>sm.get _
  have aj:Wz s=if P7 (((s.take 60).drop 1).take 1)=1/\hY (lW (s.take 60))=true then(lW (s.take 60),0)else(Fr.zero,10):=by unfold Wz;rw[aG dw]
  have O:=WT cw W;rw[aj]at fin⊢;unfold lW at fin aj O⊢;generalize s.take 60=p at cx cw W fin aj O⊢;refine(vP (K:=K) (cx.bs (by omega)) bf).Am ?_;rintro _ h5 ⟨Rr,q,rfl,d0,x5,ai,eM⟩;have u:=x5.at bf u;have dy:=cv.trans x5;have eN:Rr<h5.next:=by obtain⟨_,g,_⟩:=d0.Ou;exact ai _ _ g
  have eP:h.next+2<Rr:=by have:=d0.ne;have:=x3.next;omega
  have up:∀{X hc:Ab},Ext h X->Av (fun i=>i=Rr) X hc->Ext h hc:=fun x c=>x.then c fun j hj dA=>by
   have hj:j=Rr:=hj;omega
  have Gw:∀{X hc:Ab} {i:Nat} {o:D3},Av (fun i=>i=Rr) X hc->HB X->X.get i=some o->i≠Rr->hc.get i=some o:=fun c hb g hi=>c.at hb g hi
  refine(Ll (K:=K) (w:=1) d0 ai (by omega) (by decide) (by decide) (by omega) W).Am ?_;rintro _ h6 ⟨rfl,d1,c6,bj⟩;have u:=Gw c6 ai u (by omega);have x6:=up dy c6;rw[Ax (l:=(⟨P7 (p.take 1),0,0,0,0,List.replicate 44 0⟩:Fr).cells) rfl]
  try simp only[Aa]
  rw[Fr.H6];have x7:Ext h6 (h6.new (.cells Fr.zero.cells 167)):=Av.new _ _;have B:(h6.new (.cells Fr.zero.cells 167)).get h6.next=some (.cells Fr.zero.cells 167):=Ad _ _
  have n7:(h6.new (.cells Fr.zero.cells 167)).next=h6.next+1:=rfl
  have u:=x7.at bj u;have a2:=x7.hb bj;have d1:=d1.ext bj x7;have cz:=x6.trans x7;have hF:Rr<h6.next:=by have:=c6.next;omega
  generalize h6.new (.cells Fr.zero.cells 167)=h7 at x7 B n7 u a2 d1 cz⊢;generalize h6.next=E at B n7 hF⊢
  refine Ok.st (⟨P7 (p.take 1),0,0,0,0,List.replicate 44 0⟩:Fr).cells B rfl (by kernel_rfl) (Bn (by kernel_rfl)) ?_;have lF:=a2 _ _ B;have B:(h7.put E (.cells (⟨P7 (p.take 1),0,0,0,0,List.replicate 44 0⟩:Fr).cells 167)).get E=some (.cells (⟨P7 (p.take 1),0,0,0,0,List.replicate 44 0⟩:Fr).cells 167):=Ae _ _ _;have u:(h7.put E (.cells (⟨P7 (p.take 1),0,0,0,0,List.replicate 44 0⟩:Fr).cells 167)).get (h.next+2)=some (.cells Fr.zero.cells 167):=by rw[Af _];exact u
  have d1:Rd (h7.put E (.cells (⟨P7 (p.take 1),0,0,0,0,List.replicate 44 0⟩:Fr).cells 167)) Rr q (0+1) (p.drop 1):=by
   have c:Av (fun i=>i=E) h7 (h7.put E (.cells (⟨P7 (p.take 1),0,0,0,0,List.replicate 44 0⟩:Fr).cells 167)):=(Av.refl (S:=fun i=>i=E) h7).Ar (.inl rfl) lF _;exact d1.chg a2 c (by have:=d1.ne;intro y;omega) (by intro y;omega)
  have x8:Ext h (h7.put E (.cells (⟨P7 (p.take 1),0,0,0,0,List.replicate 44 0⟩:Fr).cells 167)):=cz.Ar (.inr (by omega)) lF _;have a3:=a2.put lF (.cells (⟨P7 (p.take 1),0,0,0,0,List.replicate 44 0⟩:Fr).cells 167);generalize h7.put E (.cells (⟨P7 (p.take 1),0,0,0,0,List.replicate 44 0⟩:Fr).cells 167)=h8 at B u d1 x8 a3⊢;refine(Ll (K:=K) (w:=1) d1 a3 (by omega) (by decide) (by decide) (by simp only[bB];omega) (fun b hb=>W b (by revert hb;exact fun y=>aH y))).Am ?_;rintro _ h9 ⟨rfl,d2,c9,bn⟩;have u:=Gw c9 a3 u (by omega);have B:=Gw c9 a3 B (by omega);have x9:=up x8 c9;refine(Ll (K:=K) (w:=2) d2 bn (by omega) (by decide) (by decide) (by simp only[bB];omega) (fun b hb=>W b (aH (aH hb)))).Am ?_;rintro _ eX ⟨rfl,d3,bo,al⟩;have u:=Gw bo bn u (by omega);have B:=Gw bo bn B (by omega);have eb:=up x9 bo;refine(Ll (K:=K) (w:=2) d3 al (by omega) (by decide) (by decide) (by simp only[bB];omega) (fun b hb=>W b (aH (aH (aH hb))))).Am ?_;rintro _ eY ⟨rfl,d4,bp,ao⟩;have u:=Gw bp al u (by omega);have B:=Gw bp al B (by omega);have ec:=up eb bp;refine(Ll (K:=K) (w:=4) d4 ao (by omega) (by decide) (by decide) (by simp only[bB];omega) (fun b hb=>W b (aH (aH (aH (aH hb)))))).Am ?_;rintro _ eZ ⟨rfl,d5,bt,aq⟩;have u:=Gw bt ao u (by omega);have B:=Gw bt ao B (by omega);have ed:=up ec bt;refine(Ll (K:=K) (w:=6) d5 aq (by omega) (by decide) (by decide) (by simp only[bB];omega) (fun b hb=>W b (aH (aH (aH (aH (aH hb))))))).Am ?_;rintro _ fa ⟨rfl,d6,bu,au⟩;have u:=Gw bu aq u (by omega);have B:=Gw bu aq B (by omega);have cA:=up ed bu;have aw:∀{X hc:Ab},Ext h X->Av (fun i=>i=E) X hc->Ext h hc:=fun x c=>x.then c fun j hj dA=>by
   have hj:j=E:=hj;omega
  have J:∀{X hc:Ab} {i:Nat} {o:D3},Av (fun i=>i=E) X hc->HB X->X.get i=some o->i≠E->hc.get i=some o:=fun c hb g hi=>c.at hb g hi
  have L:∀{X hc:Ab} {off:Nat} {l:List Nat},Av (fun i=>i=E) X hc->HB X->Rd X Rr q off l->Rd hc Rr q off l:=fun c hb d=>d.chg hb c (by have:=d.ne;intro y;omega) (by intro y;omega)
  have hz:(⟨P7 (p.take 1),0,0,0,0,List.replicate 44 0⟩:Fr).cells.length=49:=by kernel_rfl
  refine Ok.kP B au rfl rfl (by rw[hz];decide) ?_;intro fc B bw ax;have u:=J bw au u (by omega);have d6:=L bw au d6;have ee:=aw cA bw
  try simp only[Aa]
  refine Ok.kP B ax rfl rfl (by rw[bP,hz];decide) ?_;intro fe B bx ay;have u:=J bx ax u (by omega);have d6:=L bx ax d6;have cB:=aw ee bx
  try simp only[Aa]
  refine Ok.kP B ay rfl rfl (by rw[bP,bP,hz];decide) ?_;intro ff B bz az;have u:=J bz ay u (by omega);have d6:=L bz ay d6;have ef:=aw cB bz
  try simp only[Aa]
  refine Ok.kP B az rfl rfl (by rw[bP,bP,bP,hz];decide) ?_;intro cG B b5 ad;have u:=J b5 az u (by omega);have d6:=L b5 az d6;have cT:=aw ef b5
  try simp only[Aa]
  have B:cG.get E=some (.cells ([Nk .i64 (P7 (p.take 1)),Nk .i64 (P7 (((p.drop 1).drop 1).take 2)),Nk .i64 (P7 ((((p.drop 1).drop 1).drop 2).take 2)),Nk .i64 (P7 (((((p.drop 1).drop 1).drop 2).drop 2).take 4)),Nk .i64 (P7 ((((((p.drop 1).drop 1).drop 2).drop 2).drop 4).take 6))]++Bj (List.replicate 44 0)) 167):=B;rw[show ∀k:EV->R,Nq 44 1 (.ptr E 5) none none none k=k (.slice E 5 44 44 false)from fun k=>rfl];have C:((((((p.drop 1).drop 1).drop 2).drop 2).drop 4).drop 6).length=44:=by simp only[bB];omega
  have dl:Rd cG.lift Rr q (0+1+1+2+2+4+6) ((((((p.drop 1).drop 1).drop 2).drop 2).drop 4).drop 6):=d6.chg ad (S:=fun _=>False) ⟨fun i _ _=>Bx _ _,aE _,fun w _ w2 _=>w2,fun y=>C8 y⟩ id id;refine Ok.bC (S:=fun i=>i=Rr) (WR (K:=K) (n:=44) dl (C8 ad) (by decide)) (fun _ _ p=>p.2.2.1) ?_;rintro b6 eB Y s' ⟨ah,d7,_,b8⟩ ae ca cc;have af:=ae.hb b8;have ah:Bs Y b6 q (0+1+1+2+2+4+6) (((((((p.drop 1).drop 1).drop 2).drop 2).drop 4).drop 6).take 44):=ah.frame (ae.get _);have d7:Rd Y Rr q (0+1+1+2+2+4+6+44) (((((((p.drop 1).drop 1).drop 2).drop 2).drop 4).drop 6).drop 44):=by
   obtain⟨s0,g,e,f⟩:=d7.Ou;exact⟨⟨s0,by rw[ae.get];exact g,e,fun y=>⟨(f y).1,(f y).2.frame (ae.get _)⟩⟩,d7.ne⟩
  have u:=Gw ca ad u (by omega);have B:=Gw ca ad B (by omega);have eg:=up cT ca;generalize fg:(((((p.drop 1).drop 1).drop 2).drop 2).drop 4).drop 6=body at ah d7 C fin O⊢;generalize hq:P7 ((p.drop 1).take 1)=a4 at fin⊢;generalize P7 (p.take 1)=na at B fin O⊢;generalize P7 (((p.drop 1).drop 1).take 2)=nz at B fin O⊢;generalize P7 ((((p.drop 1).drop 1).drop 2).take 2)=no at B fin O⊢;generalize P7 (((((p.drop 1).drop 1).drop 2).drop 2).take 4)=ne at B fin O⊢;generalize P7 ((((((p.drop 1).drop 1).drop 2).drop 2).drop 4).take 6)=ns at B fin O⊢;have ei:body.take 44=body:=bS (by omega);rw[ei]at ah fin O⊢;have ej:body.drop 44 = []:=List.drop_eq_nil_of_le (by omega);rw[ej]at d7;have hlen:lenOf b6=some 44:=by have:=ah.len;rw[C]at this;exact this
  have c5:O9 Y.lift 1 44 b6=some (Bj body):=by have:=ah.lift.cells;rw[C]at this;exact this
  have ek:=zX (h:=Y.lift) (i:=E) (n:=44) (r:=44) (op:=false) (t:=167) (hd:=[Nk .i64 na,Nk .i64 nz,Nk .i64 no,Nk .i64 ne,Nk .i64 ns]) (Br:=Bj (List.replicate 44 0)) (by rw[Bx];exact B) hlen (by decide) c5 (by rw[Bg,C]) (by rw[Bg,bV]);have c7:=af _ _ B;refine Ok.rq (S:=fun i=>i=E) (by rcases cc with rfl|⟨w,rfl,_⟩<;>kernel_rfl) (by rcases cc with rfl|⟨w,rfl,_⟩<;>kernel_rfl) (fun w=>by rcases cc with rfl|⟨w,rfl,_⟩<;>kernel_rfl) (P:=fun v h'=>h'=Y.lift.put E (.cells ([Nk .i64 na,Nk .i64 nz,Nk .i64 no,Nk .i64 ne,Nk .i64 ns]++Bj body) 167)) ⟨_,_,ek,rfl⟩ (fun _ _ p=>by rw[p];exact(Av.refl (S:=fun i=>i=E) Y.lift).Ar (.inl rfl) (show E<Y.lift.next from c7) _) ?_;rintro fh eE cf s2 rfl c8 a5 _;have U:=a5.hb af;have B:cf.get E=some (.cells ([Nk .i64 na,Nk .i64 nz,Nk .i64 no,Nk .i64 ne,Nk .i64 ns]++Bj body) 167):=by rw[c8.get];exact Ae _ _ _
  have u:=J a5 af u (by omega);have d7:=L a5 af d7;have da:=aw eg a5;simp only[Ac];have cl:([Nk .i64 na,Nk .i64 nz,Nk .i64 no,Nk .i64 ne,Nk .i64 ns]++Bj body).length=49:=by rw[aF,Bg,C];rfl
  have bad:∀aa:Ab,Ext cf aa->¬(a4=1/\hY ⟨na,nz,no,ne,ns,body⟩=true)->∀w:EV,Ok (Ve K (.ptr (h.next+2) 0) (.ptr E 0) (.bool true) w aa) _:=fun aa T en w=>by
   simp only[Ve,Aa];rw[Ax (l:=Fr.zero.cells) rfl];exact fin Fr.zero 10 aa _ (fun _=>rfl) (T.hb U) (da.trans T) (T.at U u) Fr.Gz (by rw[aG en])
  by_cases hv:a4=1
  ·rw[show decide (¬Int.ofNat a4=1)=false from aJ (by rw[hv];exact fun y=>y rfl)]
   simp only[Aa];rw[Cy B rfl,Aj cl];simp only[G2];refine(zW (K:=K) ⟨na,nz,no,ne,ns,body⟩).Am ?_;rintro _ aa ⟨rfl,T⟩;generalize hY ⟨na,nz,no,ne,ns,body⟩=fb at fin bad⊢;cases fb with
   | false=>
    simp only[Aa,Vg,Ac];exact bad aa T (by simp) _
   | true=>
    have db:=T.hb U;simp only[Aa,Vg,Ac,Bpr (d7.ext U T),I];simp only[Ve,Aa,aB,aA,LS];rw[Cy (T.at U B) rfl,Aj cl];simp only[G2];have r:=fin ⟨na,nz,no,ne,ns,body⟩ 0 aa (fun z=>Jk TT [RV.c (EV.ptr (h.next+2) 0) 167,RV.v (EV.int IntKind.i64 0)] z) (fun _=>rfl) db (da.trans T) (T.at U u) O (by rw[aI ⟨hv,rfl⟩]);simp only[eq_self]at r;exact r
  ·rw[show decide (¬Int.ofNat a4=1)=true from aM fun y=>hv (Int.ofNat.inj y)]
   simp only[Aa,Vg,Ac];exact bad cf (Av.refl _) (fun y=>hv y.1) _
noncomputable def iv(s:List Nat)(Al off:Int):Fr × Int:=
 if ¬(Wz s).2=0 then(Fr.zero,(Wz s).2)else if ¬(Wz s).1.Al=Al\/¬(Wz s).1.off=off then(Fr.zero,12)else((Wz s).1,0)
theorem UX{s:List Nat}(hl:s.length=64)(hu:∀b∈s,b<256)(hb:HB h)(hK:10000<K)(Al off:Int):
 Ok (se K Uh (.agg (Bj s)) (I Al) (I off) h) fun v h'=>v=.tuple [.agg (iv s Al off).1.cells,I (iv s Al off).2]/\(iv s Al off).1.Wf/\Ext h h':=by
 unfold Uh;simp only[se,Aa];rw[Fr.H6];have x1:Ext h (((h.new (.cells Be 96)).new (.cells (Bj s) 30)).new (.cells Fr.zero.cells 167)):=((Av.new _ _).Da _).Da _;have g2:(((h.new (.cells Be 96)).new (.cells (Bj s) 30)).new (.cells Fr.zero.cells 167)).get h.next=some (.cells Be 96):=by
  rw[Ay _ (by show h.next<h.next+1+1;omega),Ay _ (aO _)];exact Ad _ _
 have g3:(((h.new (.cells Be 96)).new (.cells (Bj s) 30)).new (.cells Fr.zero.cells 167)).get (h.next+1)=some (.cells (Bj s) 30):=by
  rw[Ay _ (by show h.next+1<h.next+1+1;omega)];exact Ad _ _
 have o:(((h.new (.cells Be 96)).new (.cells (Bj s) 30)).new (.cells Fr.zero.cells 167)).get (h.next+2)=some (.cells Fr.zero.cells 167):=Ad _ _;have n1:(((h.new (.cells Be 96)).new (.cells (Bj s) 30)).new (.cells Fr.zero.cells 167)).next=h.next+3:=rfl
 rw[show(h.new (.cells Be 96)).next=h.next+1 from rfl,show((h.new (.cells Be 96)).new (.cells (Bj s) 30)).next=h.next+2 from rfl];generalize ((h.new (.cells Be 96)).new (.cells (Bj s) 30)).new (.cells Fr.zero.cells 167)=h1 at x1 g2 g3 o n1⊢;have C:=x1.hb hb;have zl:=Fr.Bc Fr.Gz;have E:=Bpo hl hu;have fin:∀(f:Fr) (e:Int) (L:Ab) (kk:Ab->R),(∀h',kk h'=Jk TT [.c (.ptr (h.next+2) 0) 167,.v (I e)] h')->HB L->Ext h L->L.get (h.next+2)=some (.cells Fr.zero.cells 167)->f.Wf->(f,e)=iv s Al off ->
  Ok (f_ 49 (.ptr (h.next+2) 0) (.agg f.cells) L kk) fun v h'=>v=.tuple [.agg (iv s Al off).1.cells,I (iv s Al off).2]/\(iv s Al off).1.Wf/\Ext h h':=by
  intro f e L kk ae af x5 g5 wf he;have fl:=Fr.Bc wf;refine Ok.st f.cells g5 rfl (by show Ga f.cells=49;rw[Bh,fl]) (Bn (by rw[zl];exact fl.symm)) ?_;have g6:(L.put (h.next+2) (.cells f.cells 167)).get (h.next+2)=some (.cells f.cells 167):=Ae _ _ _;rw[ae,Ej g6 qU.1 qU.2 fl,<-he];exact .ret ⟨rfl,wf,x5.Ar (.inr (by omega)) (af _ _ g5) _⟩
 have u64:(Bj s).length=64:=by rw[Bg,hl]
 rw[Cy g2 rfl,Aj Pr];simp only[G2];rw[Cy g3 rfl,Aj u64];simp only[G2];refine(Azq (K:=K) hl hu C hK).Am ?_;rintro _ h2 ⟨rfl,X⟩;have O:=X.hb C;have o:=X.at C o;have ag:=x1.trans X;simp only[Aa];have Y:Ext h2 (h2.new (.cells Fr.zero.cells 167)):=Av.new _ _;have B:(h2.new (.cells Fr.zero.cells 167)).get h2.next=some (.cells Fr.zero.cells 167):=Ad _ _
 have o:=Y.at O o;have J:=Y.hb O;have T:=ag.trans Y;have n2:h.next+3<=h2.next:=by have:=X.next;omega
 generalize h2.new (.cells Fr.zero.cells 167)=h3 at Y B o J T⊢;generalize h2.next=U at B n2⊢
 have dl:=Fr.Bc E;refine Ok.st (Wz s).1.cells B rfl (by show Ga (Wz s).1.cells=49;rw[Bh,dl]) (Bn (by rw[zl];exact dl.symm)) ?_;have lF:=J _ _ B;have B:(h3.put U (.cells (Wz s).1.cells 167)).get U=some (.cells (Wz s).1.cells 167):=Ae _ _ _;have o:(h3.put U (.cells (Wz s).1.cells 167)).get (h.next+2)=some (.cells Fr.zero.cells 167):=by rw[Af _];exact o
 have W:Ext h (h3.put U (.cells (Wz s).1.cells 167)):=T.Ar (.inr (by omega)) lF _;have u:=J.put lF (.cells (Wz s).1.cells 167);have e0:EV.cells (EV.agg (Wz s).1.cells)=(Wz s).1.cells:=rfl;generalize h3.put U (.cells (Wz s).1.cells 167)=h4 at B o W u⊢;unfold iv at fin⊢;generalize (Wz s).2=e at fin⊢;generalize (Wz s).1=f at fin E dl B⊢;simp only[I,Ac];by_cases he:e=0
 ·subst he
  simp only[aB,aA,Aa,L0,Cw B rfl,ak]at fin⊢;have l1:f.cells[1]? = some (I f.Al):=rfl;have l2:f.cells[2]? = some (I f.off):=rfl;rw[l1];simp only[G2,I,Ac];by_cases hz:f.Al=Al
  ·simp only[hz,aB,aA,Aa,Cw B rfl,false_or]at fin⊢
   rw[l2];simp only[G2,I,Ac];by_cases ho:f.off=off
   ·simp only[ho,aB,aA,Aa,uu,ak,LZ]at fin⊢
    rw[Cy B rfl,Aj dl];exact fin f 0 h4 _ (fun _=>rfl) u W o E rfl
   ·simp only[ho,aR,aC,Aa,uu,bJ]at fin⊢
    rw[Ax (l:=Fr.zero.cells) rfl];exact fin Fr.zero 12 h4 _ (fun _=>rfl) u W o Fr.Gz rfl
  ·simp only[hz,aR,aC,Aa,true_or,bJ,uu]at fin⊢
   rw[Ax (l:=Fr.zero.cells) rfl];exact fin Fr.zero 12 h4 _ (fun _=>rfl) u W o Fr.Gz rfl
 ·simp only[he,aR,aC,Aa,bJ]at fin⊢
  rw[Ax (l:=Fr.zero.cells) rfl];exact fin Fr.zero e h4 _ (fun _=>rfl) u W o Fr.Gz rfl
structure En where
 kind:Int
 first:Int
 count:Int
 block:Int
 many:Int
 Bf:Int
 bytes:List Nat
def En.cells(e:En):List EV:=[I e.kind,I e.first,I e.count,I e.block,I e.many,I e.Bf]++Bj e.bytes
structure En.Wf(e:En):Prop where
 len:e.bytes.length=32
 u8:∀b∈e.bytes,b<256
theorem En.Bc {e:En}(w:e.Wf):e.cells.length=38:=by
 unfold En.cells;rw[aF,Bg,w.len];rfl
theorem Bli(a b:Nat):jO (Nk .u8 a) (Nk .u8 b)=some (decide (a=b)):=by
 show Bb (Nat.beq (Pc .u8) (Pc .u8)) (some (iN (Int.ofNat a) (Int.ofNat b))) none=_;rw[cQ,Ak,lI];exact congrArg some (eO.2 ⟨Int.ofNat.inj,congrArg _⟩)
theorem zY:∀(a b:List Nat),a.length=b.length->E8 (Bj a) (Bj b)=some (decide (a=b))
 | [],[],_=>rfl
 | x::a,y::b,h=>by
  have ih:=zY a b (by simpa using h);show(match jO (Nk .u8 x) (Nk .u8 y)with|some true=>E8 (Bj a) (Bj b)|some false=>(match E8 (Bj a) (Bj b)with|some _=>some false|none=>none)|none=>none)=_;rw[Bli,ih];by_cases o:x=y
  ·rw[aM o]
   subst o;simp
  ·rw[aJ o]
   simp[o]
theorem zZ:∀(a:List Nat),shaped (List.replicate a.length 0) (Bj a)=true
 | []=>rfl
 | x::a=>by
  show Bb (Nat.beq 0 0) (shaped (List.replicate a.length 0) (Bj a)) false=true;rw[zZ a];rfl
theorem Bhz(o:TT.eqs t=some (List.replicate n 0)){a b:List Nat}(u:a.length=n)(hb:b.length=n)(k:EV->R):J5 iW (bin TT .eql t) (.agg (Bj a)) (.agg (Bj b)) k=k (.bool (decide (a=b))):=by
 have e:bin TT .eql t (.agg (Bj a)) (.agg (Bj b))=some (.bool (decide (a=b))):=by
  show(match jD TT t (.agg (Bj a)) (.agg (Bj b))with|some b=>some (EV.bool b)|none=>none)=_;have:jD TT t (.agg (Bj a)) (.agg (Bj b))=some (decide (a=b)):=by
   show(match TT.eqs t with|some sh=>Bb (shaped sh (Bj a)) (E8 (Bj a) (Bj b)) none|none=>none)=_;rw[o];simp only;rw[show List.replicate n 0=List.replicate a.length 0 by rw[u],zZ,Ak,zY a b (by omega)]
  rw[this]
 show oB k (bin TT .eql t (.agg (Bj a)) (.agg (Bj b)))=_;rw[e];rfl
theorem Bgv(o:TT.eqs t=some (List.replicate n 0)){a b:List Nat}(u:a.length=n)(hb:b.length=n)(k:EV->R):J5 iX (bin TT .neq t) (.agg (Bj a)) (.agg (Bj b)) k=k (.bool (decide (¬a=b))):=by
 have e:bin TT .neq t (.agg (Bj a)) (.agg (Bj b))=some (.bool (decide (¬a=b))):=by
  show(match jD TT t (.agg (Bj a)) (.agg (Bj b))with|some b=>some (EV.bool (Bb b false true))|none=>none)=_;have:jD TT t (.agg (Bj a)) (.agg (Bj b))=some (decide (a=b)):=by
   show(match TT.eqs t with|some sh=>Bb (shaped sh (Bj a)) (E8 (Bj a) (Bj b)) none|none=>none)=_;rw[o];simp only;rw[show List.replicate n 0=List.replicate a.length 0 by rw[u],zZ,Ak,zY a b (by omega)]
  rw[this];by_cases h:a=b
  ·simp[h,Bb]
  ·simp[h,Bb]
 show oB k (bin TT .neq t (.agg (Bj a)) (.agg (Bj b)))=_;rw[e];rfl
theorem Btt:TT.eqs 49=some (List.replicate 32 0):=by kernel_rfl
theorem Bsu:TT.eqs 165=some (List.replicate 44 0):=by kernel_rfl
theorem Ql(n a b:Int)(h:Ab):Px K (.int .i64 n) (.int .i64 a) (.int .i64 b) h=some (.bool (wi n a b),h):=by
 simp only[Px,Ac,Aa];by_cases o:a<=n
 ·simp only[o,aC,Aa,Ac,xD,wi,bI]
 ·simp only[o,aA,Aa,xD,wi,av]
def Du:List Nat:=List.replicate 32 0
def pB(e:En):Bool:=
 if e.kind=1 then wi e.count 1 4&&decide (e.many=0)else
 if e.kind=2 then(decide (e.count=1)&&wi e.many 1 (256-e.block))&&decide (e.bytes=Du)else
 if e.kind=3 then decide (e.count=1)&&decide (e.many=0)else false
theorem Jh:List.replicate 32 (EV.int .u8 0)=Bj Du:=by kernel_rfl
theorem Azy{e:En}(w:e.Wf)(B:wi e.block 0 255=true):Ok (Pk K (.agg e.cells) h) fun v h'=>v=.bool (pB e)/\Ext h h':=by
 obtain⟨b0,b1⟩:=Ez.1 B;simp only[Pk,Aa];obtain⟨X,T,o,u,_⟩:=nW h (.cells e.cells 131);rw[T];have l0:e.cells[0]? = some (I e.kind):=rfl;have C:e.cells[2]? = some (I e.count):=rfl;have U:e.cells[3]? = some (I e.block):=rfl;have E:e.cells[4]? = some (I e.many):=rfl;have W:Og e.cells 6 32=some (Bj e.bytes):=by
  rw[Fx (by rw[En.Bc w];decide)];show some (List.take 32 (Bj e.bytes))=_;rw[bS (by rw[Bg,w.len];decide)]
 simp only[Cw u rfl,Aa,l0,I,Ac];unfold pB;by_cases J:e.kind=1
 ·simp only[J,aC,Aa,Cw u rfl,C,I,Ql,Ac,bJ]
  cases wi e.count 1 4 with
  | false=>simp only[Aa,Q2,Ac];exact .ret ⟨rfl,o⟩
  | true=>
   simp only[Aa,Cw u rfl,E,I,Ac,Q2,bI];exact .ret ⟨rfl,o⟩
 ·simp only[J,aA,Aa,ak,Ac]
  by_cases L:e.kind=2
  ·simp only[L,aC,Aa,Cw u rfl,C,I,Ac,bJ]
   by_cases c1:e.count=1
   ·simp only[c1,aC,Aa,Cw u rfl,E,U,I,Ac,bI]
    rw[Cl,Ql];simp only[Aa,Q9];cases wi e.many 1 (256-e.block)with
    | false=>simp only[Aa,Mj,Ac,av];exact .ret ⟨rfl,o⟩
    | true=>
     simp only[Aa,Ac,Cy u rfl,W];rw[Ax (l:=Bj Du) (by rw[Jh];rfl),Bhz Btt w.len (by rfl)];simp only[Mj,Aa,bI];exact .ret ⟨rfl,o⟩
   ·simp only[c1,aA,Aa,Ac,Q9,Mj,av]
    exact .ret ⟨rfl,o⟩
  ·simp only[L,aA,Aa,ak,Ac]
   by_cases O:e.kind=3
   ·simp only[O,aC,Aa,Cw u rfl,C,I,Ac,bJ]
    by_cases c1:e.count=1
    ·simp only[c1,aC,Aa,Cw u rfl,E,I,Ac,Q5,bI]
     exact .ret ⟨rfl,o⟩
    ·simp only[c1,aA,Aa,Ac,Q5,av]
     exact .ret ⟨rfl,o⟩
   ·simp only[O,aA,Aa,ak,Zw]
    exact .ret ⟨rfl,o⟩
def iR(e:En):Bool:=wi e.first 0 281474976710655&&(wi e.block 0 255&&(wi e.Bf 0 65535&&pB e))
theorem A2e{e:En}(w:e.Wf):Ok (R6 K (.agg e.cells) h) fun v h'=>v=.bool (iR e)/\Ext h h':=by
 simp only[R6,Aa];obtain⟨O,C,o,u,_⟩:=nW h (.cells e.cells 131);rw[C];have l1:e.cells[1]? = some (I e.first):=rfl;have E:e.cells[3]? = some (I e.block):=rfl;have J:e.cells[5]? = some (I e.Bf):=rfl;simp only[Cw u rfl,Aa,l1,I,Ql,Ac];unfold iR;cases wi e.first 0 281474976710655 with
 | false=>simp only[Aa,Ac,Sx,Nh,J4];exact .ret ⟨rfl,o⟩
 | true=>
 simp only[Aa,Ac,Cw u rfl,E,I,Ql,Sx,bI];cases B:wi e.block 0 255 with
 | false=>simp only[Aa,Ac,Nh,J4];exact .ret ⟨rfl,o⟩
 | true=>
 simp only[Aa,Ac,Cw u rfl,J,I,Ql,Nh,bI];cases wi e.Bf 0 65535 with
 | false=>simp only[Aa,Ac,J4];exact .ret ⟨rfl,o⟩
 | true=>
 simp only[Aa,Ac,bI];rw[Cy u rfl,Aj (En.Bc w)];simp only[G2];refine(Azy (K:=K) w B).Am ?_;rintro _ h2 ⟨rfl,L⟩;simp only[J4,Aa];exact .ret ⟨rfl,o.trans L⟩
variable {e:En}
def Xa(e:En):List Nat:=Pa 6 e.first.toNat++Pa 1 e.count.toNat++Pa 1 e.block.toNat++Pa 2 e.many.toNat++Pa 2 e.Bf.toNat++e.bytes
def Vt:List Nat:=List.replicate 44 0
theorem z7:List.replicate 44 (EV.int .u8 0)=Bj Vt:=by kernel_rfl
def D8(e:En):List Nat × Int:=if iR e=true then(Xa e,0)else(Vt,10)
theorem WU(w:e.Wf):(Xa e).length=44:=by
 unfold Xa;simp only[aF,De,w.len]
theorem Bkk(w:e.Wf):∀b∈Xa e,b<256:=fun b hb=>by
 unfold Xa at hb;simp only[bR]at hb;rcases hb with((((hb|hb)|hb)|hb)|hb)|hb
 ·exact Jb _ _ b hb
 ·exact Jb _ _ b hb
 ·exact Jb _ _ b hb
 ·exact Jb _ _ b hb
 ·exact Jb _ _ b hb
 ·exact w.u8 b hb
theorem tx(w:e.Wf):(D8 e).1.length=44:=by
 unfold D8;split
 ·exact WU w
 ·rfl
theorem WV(w:e.Wf):∀b∈(D8 e).1,b<256:=by
 unfold D8;split
 ·exact Bkk w
 ·intro b hb;rw[bO hb];decide
theorem pM:TT.size 165=some 44/\TT.agg 165=some true:=⟨by kernel_rfl,by kernel_rfl⟩
theorem z9(u:iR e=true):(0<=e.first/\e.first<=281474976710655)/\(0<=e.block/\e.block<=255)/\(0<=e.Bf/\e.Bf<=65535)/\(1<=e.count/\e.count<=4)/\(0<=e.many/\e.many<=256)/\(1<=e.kind/\e.kind<=3):=by
 unfold iR at u;simp only[aS]at u;obtain⟨B,C,E,o⟩:=u;have a:=Ez.1 B;have b:=Ez.1 C;have c:=Ez.1 E;refine⟨a,b,c,?_⟩;unfold pB at o;split at o
 ·simp only[aS,aV]at o
  have:=Ez.1 o.1;omega
 ·split at o
  ·simp only[aS,aV]at o
   have:=Ez.1 o.1.2;omega
  ·split at o
   ·simp only[aS,aV]at o
    omega
   ·cases o
theorem WW(w:e.Wf)(hb:HB h)(hK:10000<K):
 Ok (O7 K (.agg e.cells) h) fun v h'=>v=.tuple [.agg (Bj (D8 e).1),I (D8 e).2]/\Ext h h':=by
 have l1:e.cells[1]? = some (I e.first):=rfl;have l2:e.cells[2]? = some (I e.count):=rfl;have l3:e.cells[3]? = some (I e.block):=rfl;have l4:e.cells[4]? = some (I e.many):=rfl;have l5:e.cells[5]? = some (I e.Bf):=rfl;have ao:=En.Bc w;simp only[O7,Aa];rw[z7];have x1:Ext h (((h.new (.cells e.cells 131)).new (.cells (Bj Vt) 165)).new (.cells (Bj Vt) 165)):=((Av.new _ _).Da _).Da _;have C:(((h.new (.cells e.cells 131)).new (.cells (Bj Vt) 165)).new (.cells (Bj Vt) 165)).get h.next=some (.cells e.cells 131):=by
  rw[Ay _ (by show h.next<h.next+1+1;omega),Ay _ (aO _)];exact Ad _ _
 have B:(((h.new (.cells e.cells 131)).new (.cells (Bj Vt) 165)).new (.cells (Bj Vt) 165)).get (h.next+1)=some (.cells (Bj Vt) 165):=by
  rw[Ay _ (by show h.next+1<h.next+1+1;omega)];exact Ad _ _
 have u:(((h.new (.cells e.cells 131)).new (.cells (Bj Vt) 165)).new (.cells (Bj Vt) 165)).get (h.next+2)=some (.cells (Bj Vt) 165):=Ad _ _;have n1:(((h.new (.cells e.cells 131)).new (.cells (Bj Vt) 165)).new (.cells (Bj Vt) 165)).next=h.next+3:=rfl
 rw[show(h.new (.cells e.cells 131)).next=h.next+1 from rfl,show((h.new (.cells e.cells 131)).new (.cells (Bj Vt) 165)).next=h.next+2 from rfl];generalize ((h.new (.cells e.cells 131)).new (.cells (Bj Vt) 165)).new (.cells (Bj Vt) 165)=h1 at x1 C B u n1⊢;have X:=x1.hb hb;have zl:(Bj Vt).length=44:=by rw[Bg];rfl
 have fin:∀(l:List Nat) (er:Int) (h5:Ab) (kk:Ab->R),(∀h',kk h'=Jk TT [.c (.ptr (h.next+1) 0) 165,.v (I er)] h')->HB h5->Ext h h5->h5.get (h.next+1)=some (.cells (Bj Vt) 165)->l.length=44->(l,er)=D8 e ->
  Ok (f_ 44 (.ptr (h.next+1) 0) (.agg (Bj l)) h5 kk) fun v h'=>v=.tuple [.agg (Bj (D8 e).1),I (D8 e).2]/\Ext h h':=by
  intro l er h5 kk a9 J x5 g5 hl he;have fl:(Bj l).length=44:=by rw[Bg,hl]
  refine Ok.st (Bj l) g5 rfl (by show Ga (Bj l)=44;rw[Bh,fl]) (Bn (by rw[zl];exact fl.symm)) ?_;have g6:(h5.put (h.next+1) (.cells (Bj l) 165)).get (h.next+1)=some (.cells (Bj l) 165):=Ae _ _ _;rw[a9,Ej g6 pM.1 pM.2 fl,<-he];exact .ret ⟨rfl,x5.Ar (.inr (by omega)) (J _ _ g5) _⟩
 rw[Cy C rfl,Aj ao];simp only[G2];refine(A2e (K:=K) w).Am ?_;rintro _ h2 ⟨rfl,x2⟩;have O:=x2.hb X;have aq:=x1.trans x2;have C:=x2.at X C;have B:=x2.at X B;have u:=x2.at X u;have n2:h.next+3<=h2.next:=by have:=x2.next;omega
 unfold D8 at fin⊢;cases hr:iR e with
 | false=>
  rw[hr]at fin;simp only[Aa,aX,ak]at fin⊢;rw[Cy u rfl,Aj zl];simp only[G2];exact fin Vt 10 h2 _ (fun _=>rfl) O aq B rfl rfl
 | true=>
 rw[hr]at fin;simp only[Aa,bJ,LO]at fin⊢;obtain⟨⟨a1,b1⟩,⟨a2,b2⟩,⟨a3,b3⟩,⟨a4,b4⟩,⟨a5,b5⟩,_⟩:=z9 hr;have p0:lU (h2.new (.cells [.Aq,.bool false] 233)) h2.next 233 [] false:=⟨.Aq,0,Ad _ _,.nil _ _ _ _,fun y=>absurd y (bN _)⟩
 have x3:Ext h2 (h2.new (.cells [.Aq,.bool false] 233)):=Av.new _ _;have C:=x3.at O C;have B:=x3.at O B;have u:=x3.at O u;have T:=x3.hb O;have au:=aq.trans x3;generalize h2.new (.cells [.Aq,.bool false] 233)=h3 at p0 x3 C B u T au⊢;generalize hP:h2.next=P at p0 n2⊢
 have up:∀{ha hc:Ab},Ext h ha->Av (fun i=>P<=i) ha hc->Ext h hc:=fun x c=>x.then c fun j hj hl=>by
  have hj:P<=j:=hj;omega
 have E:∀{ha hc:Ab} {i:Nat} {o:D3},Av (fun i=>P<=i) ha hc->HB ha->ha.get i=some o->i<P->hc.get i=some o:=fun c hb g hi=>c.at hb g (by omega)
 rw[Cw C rfl,l1];simp only[G2];refine(Mf (K:=K) (w:=6) (by omega) p0 T (by simp) (by decide) (by decide) (v:=e.first)).Am ?_;rintro _ h5 ⟨p,c,J⟩;rw[Xo (b:=281474976710655) a1 b1 (by decide),aI rfl]at p;have x5:=up au c;have C:=E c T C (by omega);have B:=E c T B (by omega);have u:=E c T u (by omega);rw[Cw C rfl,l2];simp only[G2];refine(Mf (K:=K) (w:=1) (by omega) p J (by simp[De]) (by decide) (by decide) (v:=e.count)).Am ?_;rintro _ h6 ⟨p,c,Y⟩;rw[Xo (b:=4) (by omega) b4 (by decide),aI rfl]at p;have x6:=up x5 c;have C:=E c J C (by omega);have B:=E c J B (by omega);have u:=E c J u (by omega);rw[Cw C rfl,l3];simp only[G2];refine(Mf (K:=K) (w:=1) (by omega) p Y (by simp[De]) (by decide) (by decide) (v:=e.block)).Am ?_;rintro _ h7 ⟨p,c,aa⟩;rw[Xo (b:=255) a2 b2 (by decide),aI rfl]at p;have x7:=up x6 c;have C:=E c Y C (by omega);have B:=E c Y B (by omega);have u:=E c Y u (by omega);rw[Cw C rfl,l4];simp only[G2];refine(Mf (K:=K) (w:=2) (by omega) p aa (by simp[De]) (by decide) (by decide) (v:=e.many)).Am ?_;rintro _ h8 ⟨p,c,ab⟩;rw[Xo (b:=256) a5 b5 (by decide),aI rfl]at p;have x8:=up x7 c;have C:=E c aa C (by omega);have B:=E c aa B (by omega);have u:=E c aa u (by omega);rw[Cw C rfl,l5];simp only[G2];refine(Mf (K:=K) (w:=2) (by omega) p ab (by simp[De]) (by decide) (by decide) (v:=e.Bf)).Am ?_;rintro _ h9 ⟨p,c,ag⟩;rw[Xo (b:=65535) a3 b3 (by decide),aI rfl]at p;have x9:=up x8 c;have C:=E c ab C (by omega);have B:=E c ab B (by omega);have u:=E c ab u (by omega)
 try simp only[Aa]
 rw[show ∀k:EV->R,Nq 32 1 (.ptr h.next 6) none none none k=k (.slice h.next 6 32 32 false)from fun k=>rfl];have bj:O9 h9 1 32 (.slice h.next 6 32 32 false)=some (Bj e.bytes):=by
  show Yz h9 h.next 6 32=_
  unfold Yz mA;rw[C];show Og e.cells 6 32=_;rw[Fx (by rw[ao];decide)];show some (List.take 32 (Bj e.bytes))=_;rw[bS (by rw[Bg,w.len];decide)]
 refine(WM (K:=K) (n:=32) p ag (by simp[De]) rfl (by decide) (by decide) bj w.len).Am ?_;rintro _ cA ⟨p,c,U⟩;have bn:=up x9 c;have B:=E c ag B (by omega);have u:=E c ag u (by omega);have ep:([]++Pa 6 e.first.toNat++Pa 1 e.count.toNat++Pa 1 e.block.toNat++Pa 2 e.many.toNat++Pa 2 e.Bf.toNat++e.bytes)=Xa e:=by
  unfold Xa;rw[cV]
 have ax:∀b:Bool,(b||!true)=b:=by decide
 rw[ep]at p;simp only[ax]at p;have L:=WU w;refine(WN (K:=K) p U (by rw[L];decide)).Am ?_;rintro _ ah ⟨y,q',rfl,ry,W,ad,lq⟩;have B:=W.at U B;have u:=W.at U u;have ay:=bn.trans W;simp only[Aa];rw[show ∀k:EV->R,Nq 44 1 (.ptr (h.next+2) 0) none none none k=k (.slice (h.next+2) 0 44 44 false)from fun k=>rfl];have az:=ry.bs (by rw[L];decide);have hlen:=az.len;have ae:=az.cells;rw[L]at hlen ae;have a0:=zX (h:=ah) (i:=h.next+2) (n:=44) (r:=44) (op:=false) (t:=165) (hd:=[]) (Br:=Bj Vt) u hlen (by decide) ae (by rw[Bg,L]) zl;rw[show([]:List EV).length=0 from rfl,cV]at a0;rw[a0,Au];have a6:=ad _ _ u;have u:(ah.put (h.next+2) (.cells (Bj (Xa e)) 165)).get (h.next+2)=some (.cells (Bj (Xa e)) 165):=Ae _ _ _;have B:(ah.put (h.next+2) (.cells (Bj (Xa e)) 165)).get (h.next+1)=some (.cells (Bj Vt) 165):=by rw[Af _];exact B
 rw[Cy u rfl,Aj (by rw[Bg,L])];simp only[G2];exact fin (Xa e) 0 _ _ (fun _=>rfl) (ad.put a6 _) (ay.Ar (.inr (by omega)) a6 _) B L rfl
theorem Bc2(a b c d e:Int){l:List EV}(o:l.length=44):jh (Df [(0,1),(1,1),(2,1),(3,1),(4,1),(5,44)]) [(0,I a),(1,I b),(2,I c),(3,I d),(4,I e),(5,.agg l)] Fr.zero.cells=some ([I a,I b,I c,I d,I e]++l):=by
 have hs:=rI [I a,I b,I c,I d,I e] (Bj (List.replicate 44 0)) l (by rw[Bg,bV,o]);rw[<-U7]at hs;show Bb (Nat.beq (Ga l) 44) (oB (fun z=>some z) (Mv ([I a,I b,I c,I d,I e]++Bj (List.replicate 44 0)) 5 l)) none=_;rw[Bh,o,cQ,Ak];rw[show(5:Nat) = [I a,I b,I c,I d,I e].length from rfl,hs];rfl
def Ex(e:En)(Al off Ao seq:Int):Fr × Int:=
 if iR e=true/\hY ⟨e.kind,Al,off,Ao,seq,(D8 e).1⟩=true/\e.first<=seq/\seq-e.count<e.first then(⟨e.kind,Al,off,Ao,seq,(D8 e).1⟩,0)else(Fr.zero,10)
theorem z'(w:e.Wf)(Al off Ao seq:Int):(Ex e Al off Ao seq).1.Wf:=by
 unfold Ex;split
 ·exact⟨tx w,WV w⟩
 ·exact Fr.Gz
theorem z_(w:e.Wf)(hb:HB h)(hK:10000<K)(Al off Ao seq:Int):
 Ok (Kh K (.agg e.cells) (I Al) (I off) (I Ao) (I seq) h) fun v h'=>v=.tuple [.agg (Ex e Al off Ao seq).1.cells,I (Ex e Al off Ao seq).2]/\Ext h h':=by
 have l0:e.cells[0]? = some (I e.kind):=rfl;have l1:e.cells[1]? = some (I e.first):=rfl;have l2:e.cells[2]? = some (I e.count):=rfl;have ax:=En.Bc w;have zl:=Fr.Bc Fr.Gz;have X:(⟨e.kind,Al,off,Ao,seq,(D8 e).1⟩:Fr).Wf:=⟨tx w,WV w⟩;have fl:=Fr.Bc X;simp only[Kh,Aa];rw[Fr.H6];have x1:Ext h ((h.new (.cells e.cells 131)).new (.cells Fr.zero.cells 167)):=(Av.new _ _).Da _;have u:((h.new (.cells e.cells 131)).new (.cells Fr.zero.cells 167)).get h.next=some (.cells e.cells 131):=by
  rw[Ay _ (aO _)];exact Ad _ _
 have o:((h.new (.cells e.cells 131)).new (.cells Fr.zero.cells 167)).get (h.next+1)=some (.cells Fr.zero.cells 167):=Ad _ _;have n1:((h.new (.cells e.cells 131)).new (.cells Fr.zero.cells 167)).next=h.next+2:=rfl
 rw[show(h.new (.cells e.cells 131)).next=h.next+1 from rfl];generalize (h.new (.cells e.cells 131)).new (.cells Fr.zero.cells 167)=h1 at x1 u o n1⊢;have T:=x1.hb hb;have fin:∀(f:Fr) (er:Int) (J:Ab) (kk:Ab->R),(∀h',kk h'=Jk TT [.c (.ptr (h.next+1) 0) 167,.v (I er)] h')->HB J->Ext h J->J.get (h.next+1)=some (.cells Fr.zero.cells 167)->f.Wf->(f,er)=Ex e Al off Ao seq ->
  Ok (f_ 49 (.ptr (h.next+1) 0) (.agg f.cells) J kk) fun v h'=>v=.tuple [.agg (Ex e Al off Ao seq).1.cells,I (Ex e Al off Ao seq).2]/\Ext h h':=by
  intro f er J kk a0 L Y u wf he;have fl:=Fr.Bc wf;refine Ok.st f.cells u rfl (by show Ga f.cells=49;rw[Bh,fl]) (Bn (by rw[zl];exact fl.symm)) ?_;have g6:(J.put (h.next+1) (.cells f.cells 167)).get (h.next+1)=some (.cells f.cells 167):=Ae _ _ _;rw[a0,Ej g6 qU.1 qU.2 fl,<-he];exact .ret ⟨rfl,Y.Ar (.inr (by omega)) (L _ _ u) _⟩
 rw[Cy u rfl,Aj ax];simp only[G2];refine(WW (K:=K) w T hK).Am ?_;rintro _ h2 ⟨rfl,x2⟩;have aa:=x2.hb T;have a1:=x1.trans x2;have u:=x2.at T u;have o:=x2.at T o;have n2:h.next+2<=h2.next:=by have:=x2.next;omega
 simp only[Aa];rw[z7];have x3:Ext h2 (h2.new (.cells (Bj Vt) 165)):=Av.new _ _;have C:(h2.new (.cells (Bj Vt) 165)).get h2.next=some (.cells (Bj Vt) 165):=Ad _ _
 have u:=x3.at aa u;have o:=x3.at aa o;have ab:=x3.hb aa;have ah:=a1.trans x3;have n3:(h2.new (.cells (Bj Vt) 165)).next=h2.next+1:=rfl
 generalize h2.new (.cells (Bj Vt) 165)=h3 at x3 C u o ab ah n3⊢;generalize h2.next=P at C n2 n3⊢
 have bl:(Bj (D8 e).1).length=44:=by rw[Bg,tx w]
 refine Ok.st (Bj (D8 e).1) C rfl (by show Ga (Bj (D8 e).1)=44;rw[Bh,bl]) (Bn (by rw[Bg];exact bl.symm)) ?_;have ai:=ab _ _ C;have C:(h3.put P (.cells (Bj (D8 e).1) 165)).get P=some (.cells (Bj (D8 e).1) 165):=Ae _ _ _;have u:(h3.put P (.cells (Bj (D8 e).1) 165)).get h.next=some (.cells e.cells 131):=by rw[Af _];exact u
 have o:(h3.put P (.cells (Bj (D8 e).1) 165)).get (h.next+1)=some (.cells Fr.zero.cells 167):=by rw[Af _];exact o
 have x4:Ext h (h3.put P (.cells (Bj (D8 e).1) 165)):=ah.Ar (.inr (by omega)) ai _;have U:=ab.put ai (.cells (Bj (D8 e).1) 165);have n4:(h3.put P (.cells (Bj (D8 e).1) 165)).next=P+1:=n3
 generalize h3.put P (.cells (Bj (D8 e).1) 165)=h4 at C u o x4 U n4⊢
 try simp only[Aa]
 rw[Cw u rfl,l0];simp only[G2];rw[Cy C rfl,Aj bl];simp only[G2]
 try rw[Fr.H6]
 rw[Ax (Bc2 e.kind Al off Ao seq bl)]
 try simp only[Aa]
 have Y:Ext h4 (h4.new (.cells Fr.zero.cells 167)):=Av.new _ _;have B:(h4.new (.cells Fr.zero.cells 167)).get h4.next=some (.cells Fr.zero.cells 167):=Ad _ _
 have u:=Y.at U u;have o:=Y.at U o;have L:=Y.hb U;have aj:=x4.trans Y;generalize h4.new (.cells Fr.zero.cells 167)=J at Y B u o L aj⊢;generalize h4.next=Q at B n4⊢
 refine Ok.st (⟨e.kind,Al,off,Ao,seq,(D8 e).1⟩:Fr).cells B rfl (by show Ga (⟨e.kind,Al,off,Ao,seq,(D8 e).1⟩:Fr).cells=49;rw[Bh,fl]) (Bn (by rw[zl];exact fl.symm)) ?_;have al:=L _ _ B;have B:(J.put Q (.cells (⟨e.kind,Al,off,Ao,seq,(D8 e).1⟩:Fr).cells 167)).get Q=some (.cells (⟨e.kind,Al,off,Ao,seq,(D8 e).1⟩:Fr).cells 167):=Ae _ _ _;have u:(J.put Q (.cells (⟨e.kind,Al,off,Ao,seq,(D8 e).1⟩:Fr).cells 167)).get h.next=some (.cells e.cells 131):=by rw[Af _];exact u
 have o:(J.put Q (.cells (⟨e.kind,Al,off,Ao,seq,(D8 e).1⟩:Fr).cells 167)).get (h.next+1)=some (.cells Fr.zero.cells 167):=by rw[Af _];exact o
 have x6:Ext h (J.put Q (.cells (⟨e.kind,Al,off,Ao,seq,(D8 e).1⟩:Fr).cells 167)):=aj.Ar (.inr (by omega)) al _;have E:=L.put al (.cells (⟨e.kind,Al,off,Ao,seq,(D8 e).1⟩:Fr).cells 167);generalize J.put Q (.cells (⟨e.kind,Al,off,Ao,seq,(D8 e).1⟩:Fr).cells 167)=h6 at B u o x6 E⊢;have a3:(D8 e).2=if iR e=true then 0 else 10:=by unfold D8;split<;>rfl
 rw[a3];unfold Ex at fin⊢;generalize a4:(⟨e.kind,Al,off,Ao,seq,(D8 e).1⟩:Fr)=f at fin X fl B⊢;have no:∀W:Ab,Ext h6 W->¬(iR e=true/\hY f=true/\e.first<=seq/\seq-e.count<e.first)->Ok (Bo (Df [(0,1),(1,1),(2,1),(3,1),(4,1),(5,44)]) Fr.zero.cells [] fun a5=>f_ 49 (.ptr (h.next+1) 0) a5 W fun z=>Jk TT [.c (.ptr (h.next+1) 0) 167,.v (.int .i64 10)] z) _:=fun W O a6=>by
  rw[Ax (l:=Fr.zero.cells) rfl];exact fin Fr.zero 10 W _ (fun _=>rfl) (O.hb E) (x6.trans O) (O.at E o) Fr.Gz (by rw[aG a6])
 simp only[I,Ac];by_cases hr:iR e=true
 ·rw[aI hr]
  simp only[aB,aA,Aa];rw[Cy B rfl,Aj fl];simp only[G2];refine(zW (K:=K) f).Am ?_;rintro _ W ⟨rfl,O⟩;have u:=O.at E u;cases hf:hY f with
  | false=>
   simp only[Aa,Ac,Nt,Jx,Hd];have r:=no W O (by rw[hf];simp);rw[hf]at r;exact r
  | true=>
   have ad:=hf;rw[<-a4]at ad;simp only[hY,aS]at ad;have bn:=Ez.1 ad.2.2.2.2;have bo:=(z9 hr).2.2.2.1;have rr:=no W O;have rf:=fin f 0 W (fun z=>Jk TT [RV.c (EV.ptr (h.next+1) 0) 167,RV.v (EV.int IntKind.i64 0)] z) (fun _=>rfl) (O.hb E) (x6.trans O) (O.at E o) X;rw[hf]at rr rf;simp only[eq_self]at rr rf;simp only[Aa,Ac,Nt];rw[Cw u rfl,l1];simp only[G2,I,Ac];by_cases aq:seq<e.first
   ·rw[show decide (seq<e.first)=true from aM aq]
    simp only[Aa,Ac,Jx,Hd];exact rr fun y=>by omega
   ·rw[show decide (seq<e.first)=false from aJ aq]
    simp only[Aa,Ac,Jx];rw[Cw u rfl,l1];simp only[G2];rw[Cw u rfl,l2];simp only[G2,I,Ac];rw[Cl];by_cases au:e.first<=seq-e.count
    ·rw[show decide (e.first<=seq-e.count)=true from aM au]
     simp only[Aa,Ac,Hd];exact rr fun y=>by omega
    ·rw[show decide (e.first<=seq-e.count)=false from aJ au]
     simp only[Aa,Ac,Hd,LW];rw[Cy (O.at E B) rfl,Aj fl];exact rf (by rw[aI ⟨hr,trivial,by omega,by omega⟩])
 ·rw[aG hr]
  simp only[show ¬((10:Int)=0) by decide,aR,aC,Aa,Ac,Nt,Jx,Hd];exact no h6 (Av.refl _) fun y=>hr y.1
def En.zero:En:=⟨0,0,0,0,0,0,Du⟩
theorem En.H6:List.replicate 6 (EV.int .i64 0)++List.replicate 32 (EV.int .u8 0)=En.zero.cells:=by kernel_rfl
theorem En.Gz:En.zero.Wf:=⟨rfl,fun b hb=>by rw[bO hb];decide⟩
theorem v7:TT.size 131=some 38/\TT.agg 131=some true:=⟨by kernel_rfl,by kernel_rfl⟩
def lY(kind:Int)(p:List Nat):En:=⟨kind,P7 (p.take 6),P7 ((p.drop 6).take 1),P7 (((p.drop 6).drop 1).take 1),P7 ((((p.drop 6).drop 1).drop 1).take 2),P7 (((((p.drop 6).drop 1).drop 1).drop 2).take 2),((((((p.drop 6).drop 1).drop 1).drop 2).drop 2).take 32)⟩
theorem WX{p:List Nat}(hp:p.length=44)(hu:∀b∈p,b<256):(lY kind p).Wf:=by
 refine⟨?_,fun b hb=>hu b ?_⟩
 ·simp only[lY,bZ,bB,hp];decide
 ·simp only[lY]at hb
  exact aH (aH (aH (aH (aH (b9 hb)))))
def iA(kind:Int)(p:List Nat):En × Int:=
 if(D8 (lY kind p)).2=0/\(D8 (lY kind p)).1=p then(lY kind p,0)else(En.zero,10)
theorem WY{p:List Nat}(hp:p.length=44)(hu:∀b∈p,b<256):(iA kind p).1.Wf:=by
 unfold iA;split
 ·exact WX hp hu
 ·exact En.Gz
theorem Bd4(k:Int)(a b c d e:Nat):jh (Df [(0,1),(1,1),(2,1),(3,1),(4,1),(5,1),(6,32)]) [(0,I k),(1,Nk .i64 a),(2,Nk .i64 b),(3,Nk .i64 c),(4,Nk .i64 d),(5,Nk .i64 e)] En.zero.cells=some ([I k,Nk .i64 a,Nk .i64 b,Nk .i64 c,Nk .i64 d,Nk .i64 e]++Bj Du):=rfl
theorem Ba2{p:List Nat}(hp:p.length=44)(hu:∀b∈p,b<256)(hb:HB h)(hK:10000<K)(kind:Int):
 Ok (ur K (I kind) (.agg (Bj p)) h) fun v h'=>v=.tuple [.agg (iA kind p).1.cells,I (iA kind p).2]/\Ext h h':=by
 have zl:=En.Bc En.Gz;have ul:(Bj p).length=44:=by rw[Bg,hp]
 simp only[ur,Aa];rw[En.H6];have x1:Ext h ((h.new (.cells (Bj p) 165)).new (.cells En.zero.cells 131)):=(Av.new _ _).Da _;have u:((h.new (.cells (Bj p) 165)).new (.cells En.zero.cells 131)).get h.next=some (.cells (Bj p) 165):=by
  rw[Ay _ (aO _)];exact Ad _ _
 have B:((h.new (.cells (Bj p) 165)).new (.cells En.zero.cells 131)).get (h.next+1)=some (.cells En.zero.cells 131):=Ad _ _;have n1:((h.new (.cells (Bj p) 165)).new (.cells En.zero.cells 131)).next=h.next+2:=rfl
 rw[show(h.new (.cells (Bj p) 165)).next=h.next+1 from rfl];generalize (h.new (.cells (Bj p) 165)).new (.cells En.zero.cells 131)=h1 at x1 u B n1⊢;have bp:=x1.hb hb;have hM:=WX (kind:=kind) hp hu;have fin:∀(e:En) (er:Int) (h5:Ab) (kk:Ab->R),(∀h',kk h'=Jk TT [.c (.ptr (h.next+1) 0) 131,.v (I er)] h')->HB h5->Ext h h5->h5.get (h.next+1)=some (.cells En.zero.cells 131)->e.Wf->(e,er)=iA kind p ->
  Ok (f_ 38 (.ptr (h.next+1) 0) (.agg e.cells) h5 kk) fun v h'=>v=.tuple [.agg (iA kind p).1.cells,I (iA kind p).2]/\Ext h h':=by
  intro e er h5 kk df aj x5 g5 wf he;have fl:=En.Bc wf;refine Ok.st e.cells g5 rfl (by show Ga e.cells=38;rw[Bh,fl]) (Bn (by rw[zl];exact fl.symm)) ?_;have g6:(h5.put (h.next+1) (.cells e.cells 131)).get (h.next+1)=some (.cells e.cells 131):=Ae _ _ _;rw[df,Ej g6 v7.1 v7.2 fl,<-he];exact .ret ⟨rfl,x5.Ar (.inr (by omega)) (aj _ _ g5) _⟩
 rw[show ∀k:EV->R,Nq 44 1 (.ptr h.next 0) none none none k=k (.slice h.next 0 44 44 false)from fun k=>rfl];have bs:Bs h1 (.slice h.next 0 44 44 false) h.next 0 p:=by
  refine⟨44,false,_,Bj p,by rw[hp],by omega,u,rfl,by rw[ul];omega,?_⟩;rw[dF,hp,<-ul,bW]
 refine(vP (K:=K) bs bp).Am ?_;rintro _ h5 ⟨Rr,q,rfl,d0,x5,aj,eg⟩;have u:=x5.at bp u;have B:=x5.at bp B;have dg:=x1.trans x5;have ei:Rr<h5.next:=by obtain⟨_,g,_⟩:=d0.Ou;exact aj _ _ g
 have ej:h.next+1<Rr:=by have:=d0.ne;omega
 have up:∀{ha hc:Ab},Ext h ha->Av (fun i=>i=Rr) ha hc->Ext h hc:=fun x c=>x.then c fun j hj di=>by
  have hj:j=Rr:=hj;omega
 have Gw:∀{ha hc:Ab} {i:Nat} {o:D3},Av (fun i=>i=Rr) ha hc->HB ha->ha.get i=some o->i≠Rr->hc.get i=some o:=fun c hb g hi=>c.at hb g hi
 refine(Ll (K:=K) (w:=6) d0 aj (by omega) (by decide) (by decide) (by omega) hu).Am ?_;rintro _ h6 ⟨rfl,d1,c6,bt⟩;have u:=Gw c6 aj u (by omega);have B:=Gw c6 aj B (by omega);have x6:=up dg c6;refine(Ll (K:=K) (w:=1) d1 bt (by omega) (by decide) (by decide) (by simp only[bB];omega) (fun b hb=>hu b (aH hb))).Am ?_;rintro _ h7 ⟨rfl,d2,c7,bu⟩;have u:=Gw c7 bt u (by omega);have B:=Gw c7 bt B (by omega);have x7:=up x6 c7;refine(Ll (K:=K) (w:=1) d2 bu (by omega) (by decide) (by decide) (by simp only[bB];omega) (fun b hb=>hu b (aH (aH hb)))).Am ?_;rintro _ h8 ⟨rfl,d3,c8,bw⟩;have u:=Gw c8 bu u (by omega);have B:=Gw c8 bu B (by omega);have x8:=up x7 c8;refine(Ll (K:=K) (w:=2) d3 bw (by omega) (by decide) (by decide) (by simp only[bB];omega) (fun b hb=>hu b (aH (aH (aH hb))))).Am ?_;rintro _ h9 ⟨rfl,d4,c9,bx⟩;have u:=Gw c9 bw u (by omega);have B:=Gw c9 bw B (by omega);have x9:=up x8 c9;refine(Ll (K:=K) (w:=2) d4 bx (by omega) (by decide) (by decide) (by simp only[bB];omega) (fun b hb=>hu b (aH (aH (aH (aH hb)))))).Am ?_;rintro _ ab ⟨rfl,d5,a6,ah⟩;have u:=Gw a6 bx u (by omega);have B:=Gw a6 bx B (by omega);have dm:=up x9 a6
 try rw[En.H6]
 rw[Ax (Bd4 kind _ _ _ _ _)]
 try simp only[Aa]
 have ao:Ext ab (ab.new (.cells En.zero.cells 131)):=Av.new _ _;have W:(ab.new (.cells En.zero.cells 131)).get ab.next=some (.cells En.zero.cells 131):=Ad _ _
 have cc:(ab.new (.cells En.zero.cells 131)).next=ab.next+1:=rfl
 have u:=ao.at ah u;have B:=ao.at ah B;have X:=ao.hb ah;have d5:=d5.ext ah ao;have cf:=dm.trans ao;have hF:Rr<ab.next:=by have:=c6.next;have:=c7.next;have:=c8.next;have:=c9.next;have:=a6.next;omega
 generalize ab.new (.cells En.zero.cells 131)=ax at ao W cc u B X d5 cf⊢;generalize ab.next=Fb at W cc hF⊢
 have U:(((((p.drop 6).drop 1).drop 1).drop 2).drop 2).length=32:=by simp only[bB];omega
 unfold iA lY at fin⊢;unfold lY at hM;generalize (((((p.drop 6).drop 1).drop 1).drop 2).drop 2)=body at d5 U fin hM⊢;generalize P7 (p.take 6)=C at fin hM⊢;generalize P7 ((p.drop 6).take 1)=J at fin hM⊢;generalize P7 (((p.drop 6).drop 1).take 1)=L at fin hM⊢;generalize P7 ((((p.drop 6).drop 1).drop 1).take 2)=O at fin hM⊢;generalize P7 (((((p.drop 6).drop 1).drop 1).drop 2).take 2)=T at fin hM⊢;have ch:body.take 32=body:=bS (by omega);rw[ch]at fin hM⊢;have bf:([I kind,Nk .i64 C,Nk .i64 J,Nk .i64 L,Nk .i64 O,Nk .i64 T]++Bj Du).length=38:=by rw[aF,Bg];rfl
 refine Ok.st ([I kind,Nk .i64 C,Nk .i64 J,Nk .i64 L,Nk .i64 O,Nk .i64 T]++Bj Du) W rfl (by show Ga ([I kind,Nk .i64 C,Nk .i64 J,Nk .i64 L,Nk .i64 O,Nk .i64 T]++Bj Du)=38;rw[Bh,bf]) (Bn (by rw[zl];exact bf.symm)) ?_;have lF:=X _ _ W;have ay:Av (fun i=>i=Fb) ax (ax.put Fb (.cells ([I kind,Nk .i64 C,Nk .i64 J,Nk .i64 L,Nk .i64 O,Nk .i64 T]++Bj Du) 131)):=(Av.refl (S:=fun i=>i=Fb) ax).Ar (.inl rfl) lF _;have W:(ax.put Fb (.cells ([I kind,Nk .i64 C,Nk .i64 J,Nk .i64 L,Nk .i64 O,Nk .i64 T]++Bj Du) 131)).get Fb=some (.cells ([I kind,Nk .i64 C,Nk .i64 J,Nk .i64 L,Nk .i64 O,Nk .i64 T]++Bj Du) 131):=Ae _ _ _;have Y:=X.put lF (.cells ([I kind,Nk .i64 C,Nk .i64 J,Nk .i64 L,Nk .i64 O,Nk .i64 T]++Bj Du) 131);generalize ax.put Fb (.cells ([I kind,Nk .i64 C,Nk .i64 J,Nk .i64 L,Nk .i64 O,Nk .i64 T]++Bj Du) 131)=dp at ay W Y⊢;have ct:∀{ha hc:Ab},Ext h ha->Av (fun i=>i=Fb) ha hc->Ext h hc:=fun x c=>x.then c fun j hj di=>by
  have hj:j=Fb:=hj;omega
 have ae:∀{ha hc:Ab} {i:Nat} {o:D3},Av (fun i=>i=Fb) ha hc->HB ha->ha.get i=some o->i≠Fb->hc.get i=some o:=fun c hb g hi=>c.at hb g hi
 have u:=ae ay X u (by omega);have B:=ae ay X B (by omega);have d5:=d5.chg X ay (by have:=d5.ne;intro y;omega) (by intro y;omega);have dt:=ct cf ay
 try simp only[Aa]
 rw[show ∀k:EV->R,Nq 32 1 (.ptr Fb 6) none none none k=k (.slice Fb 6 32 32 false)from fun k=>rfl];have dl:Rd dp.lift Rr q (0+6+1+1+2+2) body:=d5.chg Y (S:=fun _=>False) ⟨fun i _ _=>Bx _ _,aE _,fun w _ w2 _=>w2,fun y=>C8 y⟩ id id;refine Ok.bC (S:=fun i=>i=Rr) (WR (K:=K) (n:=32) dl (C8 Y) (by decide)) (fun _ _ p=>p.2.2.1) ?_;rintro cv ea az s' ⟨a0,_,_,bz⟩ bj a7 b5;have ai:=bj.hb bz;have a0:=a0.frame (bj.get _);rw[ch]at a0;have u:=Gw a7 Y u (by omega);have B:=Gw a7 Y B (by omega);have W:=Gw a7 Y W (by omega);have du:=up dt a7;have hlen:lenOf cv=some 32:=by have:=a0.len;rw[U]at this;exact this
 have cw:O9 az.lift 1 32 cv=some (Bj body):=by have:=a0.lift.cells;rw[U]at this;exact this
 have dw:=zX (h:=az.lift) (i:=Fb) (n:=32) (r:=32) (op:=false) (t:=131) (hd:=[I kind,Nk .i64 C,Nk .i64 J,Nk .i64 L,Nk .i64 O,Nk .i64 T]) (Br:=Bj Du) (by rw[Bx];exact W) hlen (by decide) cw (by rw[Bg,U]) (by rw[Bg];rfl);have cx:=ai _ _ W;refine Ok.rq (S:=fun i=>i=Fb) (by rcases b5 with rfl|⟨w,rfl,_⟩<;>kernel_rfl) (by rcases b5 with rfl|⟨w,rfl,_⟩<;>kernel_rfl) (fun w=>by rcases b5 with rfl|⟨w,rfl,_⟩<;>kernel_rfl) (P:=fun v h'=>h'=az.lift.put Fb (.cells ([I kind,Nk .i64 C,Nk .i64 J,Nk .i64 L,Nk .i64 O,Nk .i64 T]++Bj body) 131)) ⟨_,_,dw,rfl⟩ (fun _ _ p=>by rw[p];exact(Av.refl (S:=fun i=>i=Fb) az.lift).Ar (.inl rfl) (show Fb<az.lift.next from cx) _) ?_;rintro ew eb dx s2 rfl cy a8 _;have af:=a8.hb ai;have W:dx.get Fb=some (.cells (⟨kind,C,J,L,O,T,body⟩:En).cells 131):=by rw[cy.get];exact Ae _ _ _
 have u:=ae a8 ai u (by omega);have B:=ae a8 ai B (by omega);have dy:=ct du a8;generalize hE:(⟨kind,C,J,L,O,T,body⟩:En)=E at fin hM W⊢;have el:=En.Bc hM;rw[Cy W rfl,Aj el];simp only[G2];refine(WW (K:=K) hM af hK).Am ?_;rintro _ ag ⟨rfl,a1⟩;have aa:=a1.hb af;have u:=a1.at af u;have B:=a1.at af B;have W:=a1.at af W;have bn:=dy.trans a1;have cz:=aa _ _ W
 try simp only[Aa]
 rw[z7];have aq:Ext ag (ag.new (.cells (Bj Vt) 165)):=Av.new _ _;have g8:(ag.new (.cells (Bj Vt) 165)).get ag.next=some (.cells (Bj Vt) 165):=Ad _ _
 have u:=aq.at aa u;have B:=aq.at aa B;have W:=aq.at aa W;have a2:=aq.hb aa;have bo:=bn.trans aq;have cA:h.next+2<=ag.next:=by have:=x1.next;have:=bn.next;have:=aa _ _ (by assumption:ag.get (h.next+1)=some (.cells En.zero.cells 131));omega
 generalize ag.new (.cells (Bj Vt) 165)=au at aq g8 u B W a2 bo⊢;generalize ag.next=P at g8 cz cA⊢
 have bl:(Bj (D8 E).1).length=44:=by rw[Bg,tx hM]
 refine Ok.st (Bj (D8 E).1) g8 rfl (by show Ga (Bj (D8 E).1)=44;rw[Bh,bl]) (Bn (by rw[Bg];exact bl.symm)) ?_;have l8:=a2 _ _ g8;have g8:(au.put P (.cells (Bj (D8 E).1) 165)).get P=some (.cells (Bj (D8 E).1) 165):=Ae _ _ _;have u:(au.put P (.cells (Bj (D8 E).1) 165)).get h.next=some (.cells (Bj p) 165):=by rw[Af _];exact u
 have B:(au.put P (.cells (Bj (D8 E).1) 165)).get (h.next+1)=some (.cells En.zero.cells 131):=by rw[Af _];exact B
 have W:(au.put P (.cells (Bj (D8 E).1) 165)).get Fb=some (.cells E.cells 131):=by rw[Af _];exact W
 have a3:Ext h (au.put P (.cells (Bj (D8 E).1) 165)):=bo.Ar (.inr (by omega)) l8 _;have a4:=a2.put l8 (.cells (Bj (D8 E).1) 165);generalize au.put P (.cells (Bj (D8 E).1) 165)=b8 at g8 u B W a3 a4⊢;simp only[I,Ac];have no:¬((D8 E).2=0/\(D8 E).1=p)->Ok (Bo (Df [(0,1),(1,1),(2,1),(3,1),(4,1),(5,1),(6,32)]) En.zero.cells [] fun dA=>f_ 38 (.ptr (h.next+1) 0) dA b8 fun z=>Jk TT [.c (.ptr (h.next+1) 0) 131,.v (.int .i64 10)] z) _:=fun dB=>by
  rw[Ax (l:=En.zero.cells) rfl];exact fin En.zero 10 b8 _ (fun _=>rfl) a4 a3 B En.Gz (by rw[aG dB])
 by_cases h0:(D8 E).2=0
 ·rw[show decide (¬(D8 E).2=0)=false from aJ fun y=>y h0]
  simp only[Aa];rw[Cy g8 rfl,Aj bl];simp only[G2];rw[Cy u rfl,Aj ul];simp only[G2];rw[Bgv Bsu (tx hM) hp];by_cases a9:(D8 E).1=p
  ·rw[show decide (¬(D8 E).1=p)=false from aJ fun y=>y a9]
   simp only[uq,Aa,LV];rw[Cy W rfl,Aj el];exact fin E 0 b8 _ (fun _=>rfl) a4 a3 B hM (by rw[aI ⟨h0,a9⟩])
  ·rw[show decide (¬(D8 E).1=p)=true from aM a9]
   simp only[uq,Aa];exact no fun y=>a9 y.2
 ·rw[show decide (¬(D8 E).2=0)=true from aM h0]
  simp only[Aa,uq];exact no fun y=>h0 y.1
def U2(f:Fr):En × Int:=
 if ¬(iA f.kind f.body).2=0 then(En.zero,(iA f.kind f.body).2)else
 if ¬(Ex (iA f.kind f.body).1 f.Al f.off f.Ao f.seq).2=0 then(En.zero,(Ex (iA f.kind f.body).1 f.Al f.off f.Ao f.seq).2)else((iA f.kind f.body).1,0)
theorem A24(w:f.Wf)(hb:HB h)(hK:10000<K):
 Ok (uv K (.agg f.cells) h) fun v h'=>v=.tuple [.agg (U2 f).1.cells,I (U2 f).2]/\(U2 f).1.Wf/\Ext h h':=by
 have l0:f.cells[0]? = some (I f.kind):=rfl;have l1:f.cells[1]? = some (I f.Al):=rfl;have l2:f.cells[2]? = some (I f.off):=rfl;have l3:f.cells[3]? = some (I f.Ao):=rfl;have l4:f.cells[4]? = some (I f.seq):=rfl;have ai:=Fr.Bc w;have l5:Og f.cells 5 44=some (Bj f.body):=by
  rw[Fx (by rw[ai];decide)];show some (List.take 44 (Bj f.body))=_;rw[bS (by rw[Bg,w.len];decide)]
 have zl:=En.Bc En.Gz;have E:=WY (kind:=f.kind) w.len w.u8;have ol:=En.Bc E;simp only[uv,Aa];rw[En.H6];have x1:Ext h ((h.new (.cells f.cells 167)).new (.cells En.zero.cells 131)):=(Av.new _ _).Da _;have o:((h.new (.cells f.cells 167)).new (.cells En.zero.cells 131)).get h.next=some (.cells f.cells 167):=by
  rw[Ay _ (aO _)];exact Ad _ _
 have u:((h.new (.cells f.cells 167)).new (.cells En.zero.cells 131)).get (h.next+1)=some (.cells En.zero.cells 131):=Ad _ _;have n1:((h.new (.cells f.cells 167)).new (.cells En.zero.cells 131)).next=h.next+2:=rfl
 rw[show(h.new (.cells f.cells 167)).next=h.next+1 from rfl];generalize (h.new (.cells f.cells 167)).new (.cells En.zero.cells 131)=h1 at x1 o u n1⊢;have J:=x1.hb hb;have fin:∀(e:En) (W:Int) (L:Ab) (kk:Ab->R),(∀h',kk h'=Jk TT [.c (.ptr (h.next+1) 0) 131,.v (I W)] h')->HB L->Ext h L->L.get (h.next+1)=some (.cells En.zero.cells 131)->e.Wf->(e,W)=U2 f ->
  Ok (f_ 38 (.ptr (h.next+1) 0) (.agg e.cells) L kk) fun v h'=>v=.tuple [.agg (U2 f).1.cells,I (U2 f).2]/\(U2 f).1.Wf/\Ext h h':=by
  intro e W L kk al O X g5 wf he;have fl:=En.Bc wf;refine Ok.st e.cells g5 rfl (by show Ga e.cells=38;rw[Bh,fl]) (Bn (by rw[zl];exact fl.symm)) ?_;have g6:(L.put (h.next+1) (.cells e.cells 131)).get (h.next+1)=some (.cells e.cells 131):=Ae _ _ _;rw[al,Ej g6 v7.1 v7.2 fl,<-he];exact .ret ⟨rfl,wf,X.Ar (.inr (by omega)) (O _ _ g5) _⟩
 rw[Cw o rfl,l0];simp only[G2];rw[Cy o rfl,l5];simp only[G2];refine(Ba2 (K:=K) w.len w.u8 J hK f.kind).Am ?_;rintro _ h2 ⟨rfl,Y⟩;have T:=Y.hb J;have ao:=x1.trans Y;have o:=Y.at J o;have u:=Y.at J u;have n2:h.next+2<=h2.next:=by have:=Y.next;omega
 try simp only[Aa]
 try rw[En.H6]
 have x3:Ext h2 (h2.new (.cells En.zero.cells 131)):=Av.new _ _;have C:(h2.new (.cells En.zero.cells 131)).get h2.next=some (.cells En.zero.cells 131):=Ad _ _
 have o:=x3.at T o;have u:=x3.at T u;have U:=x3.hb T;have ab:=ao.trans x3;generalize h2.new (.cells En.zero.cells 131)=h3 at x3 C o u U ab⊢;generalize h2.next=P at C n2⊢
 refine Ok.st (iA f.kind f.body).1.cells C rfl (by show Ga (iA f.kind f.body).1.cells=38;rw[Bh,ol]) (Bn (by rw[zl];exact ol.symm)) ?_;have ae:=U _ _ C;have C:(h3.put P (.cells (iA f.kind f.body).1.cells 131)).get P=some (.cells (iA f.kind f.body).1.cells 131):=Ae _ _ _;have o:(h3.put P (.cells (iA f.kind f.body).1.cells 131)).get h.next=some (.cells f.cells 167):=by rw[Af _];exact o
 have u:(h3.put P (.cells (iA f.kind f.body).1.cells 131)).get (h.next+1)=some (.cells En.zero.cells 131):=by rw[Af _];exact u
 have x4:Ext h (h3.put P (.cells (iA f.kind f.body).1.cells 131)):=ab.Ar (.inr (by omega)) ae _;have B:=U.put ae (.cells (iA f.kind f.body).1.cells 131);generalize h3.put P (.cells (iA f.kind f.body).1.cells 131)=h4 at C o u x4 B⊢;unfold U2 at fin⊢;generalize (iA f.kind f.body).2=W at fin⊢;generalize (iA f.kind f.body).1=e at fin E ol C⊢;simp only[I,Ac];by_cases h0:W=0
 ·subst h0
  simp only[aB,aA,Aa,ak,L_]at fin⊢;rw[Cy C rfl,Aj ol];simp only[G2];rw[Cw o rfl,l1];simp only[G2,Aa];rw[Cw o rfl,l2];simp only[G2,Aa];rw[Cw o rfl,l3];simp only[G2,Aa];rw[Cw o rfl,l4];simp only[G2,Aa];refine(z_ (K:=K) E B hK f.Al f.off f.Ao f.seq).Am ?_;rintro _ L ⟨rfl,X⟩;have O:=X.hb B;have u:=X.at B u;have C:=X.at B C;have af:=x4.trans X;generalize (Ex e f.Al f.off f.Ao f.seq).2=ag at fin⊢;simp only[Aa,I,Ac];by_cases ah:ag=0
  ·subst ah
   simp only[aB,aA,Aa,ak,L2]at fin⊢;rw[Cy C rfl,Aj ol];exact fin e 0 L _ (fun _=>rfl) O af u E rfl
  ·simp only[ah,aR,aC,Aa,bJ]at fin⊢
   rw[Ax (l:=En.zero.cells) rfl];exact fin En.zero ag L _ (fun _=>rfl) O af u En.Gz rfl
 ·simp only[h0,aR,aC,Aa,bJ]at fin⊢
  rw[Ax (l:=En.zero.cells) rfl];exact fin En.zero W h4 _ (fun _=>rfl) B x4 u En.Gz rfl
theorem AA:∀(w a:Nat),P7 (Pa w a)=a%256^w
 | 0,a=>by simp[Pa,P7,Nat.mod_one]
 | w+1,a=>by
  rw[wD,zU,AA w a,De,Nat.mod_pow_succ]
theorem H5 {w:Nat}{b:Int}(h0:0<=v)(hb:v<=b)(hw:b<(256^w:Nat)):((P7 (Pa w v.toNat):Nat):Int)=v:=by
 rw[AA,gE (by omega)];omega
theorem qJ {a b:List Nat}(h:a.length=n):(a++b).take n=a:=by subst h;simp
theorem pD {a b:List Nat}(h:a.length=n):(a++b).drop n=b:=by subst h;simp
theorem Bc1(w:f.Wf):pI (L6 f)=true:=by
 have o:=ot w;have h2:=qT w;unfold pI;rw[o];apply aM;unfold L6;rw[qJ h2,pD h2]
theorem A6h(w:f.Wf)(o:hY f=true):lW (j' f)=f/\P7 (((j' f).drop 1).take 1)=1:=by
 simp only[hY,aS]at o;obtain⟨u,B,C,E,J⟩:=o;obtain⟨W,b1⟩:=Ez.1 u;obtain⟨L,b2⟩:=Ez.1 B;obtain⟨O,b3⟩:=Ez.1 C;obtain⟨X,b4⟩:=Ez.1 E;obtain⟨T,U⟩:=Ez.1 J;have Y:=w.len;have t44:f.body.take 44=f.body:=bS (by omega);unfold lW j';simp only[bY,qJ (De _ _),pD (De _ _),t44];rw[H5 (w:=1) (by omega) b1 (by decide),H5 (w:=2) L b2 (by decide),H5 (w:=2) O b3 (by decide),H5 (w:=4) (by omega) b4 (by decide),H5 (w:=6) T U (by decide)];exact⟨rfl,by rw[AA]⟩
theorem Bhd(w:f.Wf)(o:hY f=true):Wz (L6 f)=(f,0):=by
 obtain⟨e1,e2⟩:=A6h w o;have h2:=qT w;have u:(L6 f).take 60=j' f:=by unfold L6;exact qJ h2
 unfold Wz;rw[aG (by rw[Bc1 w];simp),u,e1,aI ⟨e2,o⟩]
theorem UY(w:f.Wf)(o:hY f=true):iv (L6 f) f.Al f.off=(f,0):=by
 unfold iv;rw[Bhd w o];simp
theorem A22(w:e.Wf)(o:iR e=true):lY e.kind (Xa e)=e:=by
 obtain⟨⟨u,b1⟩,⟨B,b2⟩,⟨C,b3⟩,⟨L,b4⟩,⟨E,J⟩,_⟩:=z9 o;have O:=w.len;have t32:e.bytes.take 32=e.bytes:=bS (by omega);unfold lY Xa;simp only[bY,qJ (De _ _),pD (De _ _),t32];rw[H5 (w:=6) u b1 (by decide),H5 (w:=1) (by omega) b4 (by decide),H5 (w:=1) B b2 (by decide),H5 (w:=2) E J (by decide),H5 (w:=2) C b3 (by decide)]
theorem Bhj(w:e.Wf)(o:iR e=true):iA e.kind (Xa e)=(e,0):=by
 unfold iA;rw[A22 w o];unfold D8;rw[aI o];simp
theorem WZ(w:e.Wf){Al off seq:Int}(h:(Ex e Al off Ao seq).2=0):
 (Ex e Al off Ao seq).1=⟨e.kind,Al,off,Ao,seq,Xa e⟩/\hY ⟨e.kind,Al,off,Ao,seq,Xa e⟩=true/\iR e=true/\U2 ⟨e.kind,Al,off,Ao,seq,Xa e⟩=(e,0):=by
 by_cases o:iR e=true/\hY ⟨e.kind,Al,off,Ao,seq,(D8 e).1⟩=true/\e.first<=seq/\seq-e.count<e.first
 ·have hb:(D8 e).1=Xa e:=by unfold D8;rw[aI o.1]
  have u:Ex e Al off Ao seq=(⟨e.kind,Al,off,Ao,seq,Xa e⟩,0):=by unfold Ex;rw[aI o,hb]
  rw[hb]at o;refine⟨by rw[u],o.2.1,o.1,?_⟩;unfold U2;simp only[Bhj w o.1,u];simp
 ·exfalso
  unfold Ex at h;rw[aG o]at h;exact absurd h (by decide)
def Sr(g:Gm)(z off:Int):Bool:=rtB g&&(wi z 0 (g.D*g.Z-1)&&wi off 0 (g.S-1))
theorem wN(hb:HB h)(z off:Int):Ok (Mz K (gV g) (I z) (I off) h) fun v h'=>v=.bool (Sr g z off)/\Ext h h':=by
 simp only[Mz,gV,Aa];obtain⟨W,X,C,L,_⟩:=nW h (.cells (gL g) 23);rw[X];have o:=C.hb hb;rw[Cy L rfl,Aj (show(gL g).length=6 from rfl)];simp only[G2];rw[show EV.agg (gL g)=gV g from rfl];refine(tS (K:=K) g W).Am ?_;rintro _ h2 ⟨rfl,u⟩;have J:=u.hb o;have O:=u.at o L;unfold Sr;cases Y:rtB g with
 | false=>
  simp only[Aa,Ac,Pn,Qa,av];exact .ret ⟨rfl,C.trans u⟩
 | true=>
  have s:=Ja Y;have:=s.d0;have:=s.d1;have:=s.z0;have:=s.z1;have:=s.s0;have:=s.s1;obtain⟨m0,m1⟩:=Q6 (a:=g.D) (b:=g.Z) (A:=8) (B:=64);simp only[Aa,Ac,bI];rw[Cy O rfl,Aj (show(gL g).length=6 from rfl)];simp only[G2];rw[show EV.agg (gL g)=gV g from rfl,Nj s,Au];have E:Ext h2 (h2.new (.cells (gL g) 23)):=Av.new _ _;have T:=E.at J O;generalize h2.new (.cells (gL g) 23)=U at E T⊢;simp only[I,Ac];rw[Cl];have w1:=zG (K:=K) z 0 (g.D*g.Z-1) U;simp only[I]at w1;rw[w1,Au];cases wi z 0 (g.D*g.Z-1)with
  | false=>
   simp only[Aa,Ac,Pn,Qa,av];exact .ret ⟨rfl,(C.trans u).trans E⟩
  | true=>
   simp only[Aa,Ac,Pn];rw[Cw T rfl,show(gL g)[2]? = some (I g.S)from rfl];simp only[G2,I,Ac];rw[Cl];have w2:=zG (K:=K) off 0 (g.S-1) U;simp only[I]at w2;rw[w2,Au];simp only[Qa,Aa,bI];exact .ret ⟨rfl,(C.trans u).trans E⟩
structure Me where
 state:Int
 Al:Int
 Bf:Int
 off:Int
 seq:Int
 sum:Int
def Me.cells(m:Me):List EV:=[I m.state,I m.Al,I m.Bf,I m.off,I m.seq,I m.sum]
def meB(g:Gm)(m:Me):Bool:=Sr g m.Al m.off&&(Sr g m.Bf m.off&&(decide (¬Bp g m.Al=Bp g m.Bf)&&(decide (1<=m.seq)&&(decide (m.seq<=281474976710655)&&(decide (0<=m.sum)&&decide (m.sum<=4294967295))))))
def Rng(z:Int):Prop:=-9223372036854775808<=z/\z<=9223372036854775807
theorem AQ{m:Me}(hb:HB h)(hs:m.state=1)(hz:Rng m.Al)(hm:Rng m.Bf):Ok (Jl K (.agg m.cells) (gV g) h) fun v h'=>v=.bool (meB g m)/\Ext h h':=by
 simp only[Jl,gV,Aa];have X:Ext h ((h.new (.cells m.cells 47)).new (.cells (gL g) 23)):=(Av.new _ _).Da _;have o:((h.new (.cells m.cells 47)).new (.cells (gL g) 23)).get h.next=some (.cells m.cells 47):=by
  rw[Ay _ (aO _)];exact Ad _ _
 have C:((h.new (.cells m.cells 47)).new (.cells (gL g) 23)).get (h.next+1)=some (.cells (gL g) 23):=Ad _ _;rw[show(h.new (.cells m.cells 47)).next=h.next+1 from rfl];generalize (h.new (.cells m.cells 47)).new (.cells (gL g) 23)=h1 at X o C⊢;have B:=X.hb hb;have l0:m.cells[0]? = some (I 1):=by rw[<-hs];rfl
 have l1:m.cells[1]? = some (I m.Al):=rfl;have l2:m.cells[2]? = some (I m.Bf):=rfl;have l3:m.cells[3]? = some (I m.off):=rfl;have l4:m.cells[4]? = some (I m.seq):=rfl;have l5:m.cells[5]? = some (I m.sum):=rfl;have Y:(gL g).length=6:=rfl;have u:=B _ _ o;have J:=B _ _ C;rw[Cw o rfl,l0];simp only[G2,I,Ac];simp only[show ¬((1:Int)=0) by decide,show ¬((1:Int)=2) by decide,aA,Aa,Ko,Ac,aC];simp only[Aa,Cp J,As,Cy C rfl,Aj Y,Cp u,Cw o rfl,l1,l3,G2];rw[show EV.agg (gL g)=gV g from rfl];refine Ok.bE (wN (K:=K) (C8 B) m.Al m.off) (fun _ _ p=>p.2) ?_;rintro _ _ h2 ⟨rfl,_⟩ _ T;have L:=T.hb B;have o:=T.at B o;have C:=T.at B C;unfold meB;cases hh:Sr g m.Al m.off with
 | false=>
  simp only[Aa,Ac,Ku,Kl,Ib,Gh,Fq,Ew,av];exact .ret ⟨rfl,X.trans T⟩
 | true=>
 have ad:rtB g=true:=by unfold Sr at hh;exact((aS _ _).mp hh).1
 have sm:=Ja ad;simp only[Aa,Ac,Cp J,As,Cy C rfl,Aj Y,Cp u,Cw o rfl,l2,l3,G2];rw[show EV.agg (gL g)=gV g from rfl];refine Ok.bE (wN (K:=K) (C8 L) m.Bf m.off) (fun _ _ p=>p.2) ?_;rintro _ _ h3 ⟨rfl,_⟩ _ x3;have O:=x3.hb L;have o:=x3.at L o;have C:=x3.at L C;have U:=(X.trans T).trans x3;simp only[bI];cases Sr g m.Bf m.off with
 | false=>
  simp only[Aa,Ac,Ku,Kl,Ib,Gh,Fq,Ew,av];exact .ret ⟨rfl,U⟩
 | true=>
 simp only[Aa,Ac,Ku,Cp J,As,Cy C rfl,Aj Y,Cp u,Cw o rfl,l1,G2,bI];rw[show EV.agg (gL g)=gV g from rfl];refine Ok.bE (J1 sm m.Al hz _) (fun _ _ p=>p.2) ?_;rintro _ _ h4 ⟨rfl,_⟩ _ x4;have W:=x4.hb O;have o:=x4.at O o;have C:=x4.at O C;simp only[Aa,Ac,Cp J,As,Cy C rfl,Aj Y,Cp u,Cw o rfl,l2,G2];rw[show EV.agg (gL g)=gV g from rfl];refine Ok.bE (J1 sm m.Bf hm _) (fun _ _ p=>p.2) ?_;rintro _ _ h5 ⟨rfl,_⟩ _ x5;have ao:=x5.hb W;have o:=x5.at W o;have E:=(U.trans x4).trans x5;simp only[Aa,Ac,I,Kl];cases decide (¬Bp g m.Al=Bp g m.Bf)with
 | false=>
  simp only[Aa,Ac,Ib,Gh,Fq,Ew,av];exact .ret ⟨rfl,E⟩
 | true=>
 simp only[Aa,Ac,As,Cp u,Cw o rfl,l4,G2,I,bI,Ib];cases decide (1<=m.seq)with
 | false=>
  simp only[Aa,Ac,Gh,Fq,Ew,av];exact .ret ⟨rfl,E⟩
 | true=>
 simp only[Aa,Ac,As,Cp u,Cw o rfl,l4,G2,I,bI,Gh];cases decide (m.seq<=281474976710655)with
 | false=>
  simp only[Aa,Ac,Fq,Ew,av];exact .ret ⟨rfl,E⟩
 | true=>
 simp only[Aa,Ac,As,Cp u,Cw o rfl,l5,G2,I,bI,Fq];cases decide (0<=m.sum)with
 | false=>
  simp only[Aa,Ac,Ew,av];exact .ret ⟨rfl,E⟩
 | true=>
 simp only[Aa,Ac,As,Cp u,Cw o rfl,l5,G2,I,bI,Ew];exact .ret ⟨rfl,E⟩
structure Mi where
 g:Gm
 dr:Jo
 ps:Nat->List Int
 bad:Nat->Int
 a:Int
 b:Int
 u:Int
structure Att(h:Ab)(m D p bl ql np:Nat)(q c:Nat->Nat)(S:Mi)(G H:Nat->Prop):Prop where
 H2:Acb h m D p bl (S.g.D*S.g.Z).toNat S.g S.a S.b S.u S.bad
 Gn:Fa h p ql np q c S.g S.ps
 psz:S9 np S.g S.ps
 drv:F3 h D S.dr G
 apart:¬G m/\¬G bl/\¬G p/\¬G ql/\∀d,d<np->¬G (q d)/\¬G (c d)
 sub:(∀i,G i->H i)/\H m/\H bl/\H p/\H ql/\∀d,d<np->H (q d)/\H (c d)
structure R9(h:Ab)(m:Nat)(S:Mi)(H:Nat->Prop):Prop where
 lt:∀i,H i->i<h.next
 Ou:∃D p bl ql np q c G,Att h m D p bl ql np q c S G H
def Mi.E6(S:Mi)(z:Int):Bool:=decide (0<=Bp S.g z)&&decide (S.bad z.toNat=1)
theorem Jq{S:Mi}(s:R9 h m S H)(hb:HB h){z:Int}(C:Rng z):
 Ok (D5 K (.ptr m 0) (I z) h) fun v h'=>v=.bool (S.E6 z)/\Ext h h':=by
 obtain⟨D,p,bl,ql,np,q,c,G,a⟩:=s.Ou;have sm:=a.psz.sm;simp only[D5,Aa,a.H2.pF];refine(J1 sm z C h).Am ?_;rintro _ E ⟨rfl,u⟩;have B:=a.H2.ext fun i o g=>u.at hb g
 unfold Mi.E6;simp only[I,Ac];rcases Ip sm z with hd|⟨d0,d1,d2,d3,d4⟩
 ·rw[hd]
  simp only[show ¬((0:Int)<=-1) by decide,aA,Aa,Sp,av];exact .ret ⟨rfl,u⟩
 ·rw[aM d0]
  simp only[Aa,B.VU];obtain⟨j,rfl⟩:∃j:Nat,z=j:=⟨z.toNat,by omega⟩;have hj:j<(S.g.D*S.g.Z).toNat:=by omega
  rw[Mw hj,Cw B.Azm rfl];rw[show((List.range (S.g.D*S.g.Z).toNat).map fun z=>I (S.bad z))[0+j*1]? = some (I (S.bad j)) by rw[bM,bk,bD,cP hj];rfl];simp only[G2,I,Ac,Sp,Aa,bI];exact .ret ⟨rfl,u⟩
variable {S:Mi}
section
section
variable{p:Nat}{q c:Nat->Nat}(a:Att h m D p bl ql np q c S G H)(hb:HB h)
include a hb
theorem Att.lts:m<h.next/\bl<h.next/\p<h.next/\ql<h.next/\∀d,d<np->q d<h.next/\c d<h.next:=
 ⟨hb _ _ a.H2.H2,hb _ _ a.H2.Azm,hb _ _ a.Gn.Gn,hb _ _ a.Gn.row,fun d hd=>⟨hb _ _ (a.Gn.que d hd),hb _ _ (a.Gn.chan d hd)⟩⟩
theorem Att.AB {dr:Jo}(d:F3 h' D dr (Bk G h h'))(o:Av G h h'):Att h' m D p bl ql np q c { S with dr:=dr } (Bk G h h') (Bk H h h'):=by
 obtain⟨l1,T,U,W,E⟩:=a.lts hb;obtain⟨J,L,n3,n4,C⟩:=a.apart;have u:∀{i},¬G i->i<h.next->¬Bk G h h' i:=fun y l z=>by
  rcases z with z|z
  ·exact y z
  ·omega
 refine⟨⟨o.at hb a.H2.H2 J,o.at hb a.H2.Azm L⟩,?_,a.psz,d,⟨u J l1,u L T,u n3 U,u n4 W,fun d hd=>⟨u (C d hd).1 (E d hd).1,u (C d hd).2 (E d hd).2⟩⟩,?_⟩
 ·exact⟨a.Gn.pos,o.at hb a.Gn.Gn n3,o.at hb a.Gn.row n4,fun d hd=>o.at hb (a.Gn.que d hd) (C d hd).1,fun d hd=>o.at hb (a.Gn.chan d hd) (C d hd).2,a.Gn.inj⟩
 ·obtain⟨s1,s2,X,Y,s5,O⟩:=a.sub
  refine⟨fun i B=>?_,.inl s2,.inl X,.inl Y,.inl s5,fun d hd=>⟨.inl (O d hd).1,.inl (O d hd).2⟩⟩;rcases B with B|B
  ·exact .inl (s1 i B)
  ·exact .inr B
theorem Att.pO(P:Fa h' p ql np q c S.g ps)(Z:S9 np S.g ps)(o:Av (mP np c) h h'):Att h' m D p bl ql np q c { S with ps:=ps } G H/\Av H h h':=by
 have u:∀i,G i->¬mP np c i:=by
  rintro i B ⟨d,hd,rfl⟩;exact(a.apart.2.2.2.2 d hd).2 B
 refine⟨⟨⟨o.at hb a.H2.H2 (a.Gn.vV a.H2.H2 trivial),o.at hb a.H2.Azm (a.Gn.vV a.H2.Azm trivial)⟩,P,Z,a.drv.chg o u,a.apart,a.sub⟩,o.mono ?_⟩;rintro i ⟨d,hd,rfl⟩;exact(a.sub.2.2.2.2.2 d hd).2
end
theorem R9.ext(s:R9 h m S H)(hb:HB h)(x:Ext h h'):R9 h' m S H:=by
 obtain⟨D,p,bl,ql,np,q,c,G,a⟩:=s.Ou;have g:∀i o,h.get i=some o->h'.get i=some o:=fun i o g=>x.at hb g
 exact⟨fun i u=>aN (s.lt i u) x.next,D,p,bl,ql,np,q,c,G,a.H2.ext g,a.Gn.ext g,a.psz,a.drv.ext x,a.apart,a.sub⟩
end
theorem R9.mono{o:Nat->Prop}(s:R9 h m S H)(f:∀i,H i->o i)(l:∀i,o i->i<h.next):R9 h m S o:=by
 obtain⟨D,p,bl,ql,np,q,c,G,a⟩:=s.Ou;exact⟨l,D,p,bl,ql,np,q,c,G,a.H2,a.Gn,a.psz,a.drv,a.apart,⟨fun i u=>f _ (a.sub.1 i u),f _ a.sub.2.1,f _ a.sub.2.2.1,f _ a.sub.2.2.2.1,f _ a.sub.2.2.2.2.1,fun d hd=>⟨f _ (a.sub.2.2.2.2.2 d hd).1,f _ (a.sub.2.2.2.2.2 d hd).2⟩⟩⟩
noncomputable def Mi.leave(S:Mi)(z u:Int):Mi × Int:=
 if z = -1\/S.E6 z=true\/u=S.g.S then(S,0)else
 if u=0 then({ S with ps:=(We S.g S.g.D.toNat S.ps z).2 },(We S.g S.g.D.toNat S.ps z).1)else
 ({ S with dr:=(S.dr.finish z).1 },(S.dr.finish z).2)
theorem W_(A:Bv disp)(hK:10000<K)(hd:16<=d)(O:ma disp K S.dr)(s:R9 h m S H)(hb:HB h){z:Int}(hz:Rng z)(u:Int):
 Ok (Ag TT disp K d false 193 [.ptr m 0,I z,I u] h) fun v h'=>v=I (S.leave z u).2/\R9 h' m (S.leave z u).1 (Bk H h h')/\Av H h h'/\HB h':=by
 obtain⟨e,rfl⟩:∃k,d=k+1:=⟨d-1,by omega⟩;rw[Akm A (by omega)];have same:∀C,Ext h C->(z = -1\/S.E6 z=true\/u=S.g.S)->Ok (some (.int .i64 0,C)) fun v h'=>v=I (S.leave z u).2/\R9 h' m (S.leave z u).1 (Bk H h h')/\Av H h h'/\HB h':=fun C x W=>by
  unfold Mi.leave;rw[aI W];obtain⟨_,D,p,bl,ql,np,q,c,G,a⟩:=s.ext hb x;refine .ret ⟨rfl,⟨Bk.lt s.lt x.next,D,p,bl,ql,np,q,c,G,⟨a.H2,a.Gn,a.psz,a.drv,a.apart,⟨fun i o=>.inl (a.sub.1 i o),.inl a.sub.2.1,.inl a.sub.2.2.1,.inl a.sub.2.2.2.1,.inl a.sub.2.2.2.2.1,fun d hd=>⟨.inl (a.sub.2.2.2.2.2 d hd).1,.inl (a.sub.2.2.2.2.2 d hd).2⟩⟩⟩⟩,Ext.to x,x.hb hb⟩
 simp only[KE,I,Ac];by_cases C:z = -1
 ·rw[aM C]
  simp only[Aa,Ac,K6,H3];exact same h (Av.refl _) (.inl C)
 ·rw[aJ C]
  simp only[Aa];refine(Jq (K:=K) s hb hz).Am ?_;rintro _ h2 ⟨rfl,E⟩;have B:=E.hb hb;have s2:=s.ext hb E;obtain⟨X,D,p,bl,ql,np,q,c,G,a⟩:=s2;have e1:Hq (.ptr m (1+2)) h2=fun k=>k (I S.g.S):=by
   funext k;rw[Cw a.H2.H2 rfl];rfl
  cases T:S.E6 z with
  | true=>
   simp only[Aa,Ac,K6,H3];exact same h2 E (.inr (.inl T))
  | false=>
   simp only[Aa,Ac,K6];rw[e1];simp only[I,Ac];by_cases hu:u=S.g.S
   ·rw[aM hu]
    simp only[Aa,Ac,H3];exact same h2 E (.inr (.inr hu))
   ·rw[aJ hu]
    have W:¬(z = -1\/S.E6 z=true\/u=S.g.S):=by
     rintro(y|y|y)
     ·exact C y
     ·rw[T]at y;cases y
     ·exact hu y
    unfold Mi.leave;rw[aG W];simp only[Aa,Ac,H3];by_cases h0:u=0
    ·rw[aM h0,aI h0]
     simp only[Aa,a.H2.Gn];refine(VZ (K:=K) A a.Gn B a.psz (by omega) (d:=e) (by omega) z hz).Am ?_;rintro _ U ⟨c3,J,rfl,P3,Z3⟩;obtain⟨Y,cH⟩:=a.pO B P3 Z3 c3;have L:Av H h U:=(Ext.to E).trans cH;have hn:=a.psz.nd;subst hn;refine .ret ⟨rfl,R9.mono (H:=H) ⟨fun i o=>aN (s.lt i o) L.next,D,p,bl,ql,_,q,c,G,Y⟩ (fun _=>.inl) (Bk.lt s.lt L.next),L,J⟩
    ·rw[aJ h0,aG h0]
     simp only[Aa,Xz,a.H2.D4];refine(CH (K:=K) A (d:=e) (by omega) O a.drv B z).Am ?_;rintro _ U ⟨rfl,d3,c3,J⟩;have Y:=a.AB B d3 c3;have cH:Av H h2 U:=c3.mono a.sub.1;have L:Av H h U:=(Ext.to E).trans cH;refine .ret ⟨rfl,R9.mono (H:=Bk H h2 U) ⟨Bk.lt X c3.next,D,p,bl,ql,np,q,c,_,Y⟩ (fun i o=>?_) (Bk.lt s.lt L.next),L,J⟩;rcases o with o|o
     ·exact .inl o
     ·exact .inr ⟨bQ E.next o.1,o.2⟩
theorem XA(D:Nat)(g:Gm)(p bl n:Nat)(a b u o B C:Int):(((Ab5 D g p bl n a b u).set 265 (I o)).set 266 (I B)).set 267 (I C)=Ab5 D g p bl n o B C:=by
 unfold Ab5;have E:([EV.ptr D 0]++gL g++Be).length=263:=by rw[aF,Pr];rfl
 rw[eH _ _ (by omega),E];show((([EV.ptr D 0]++gL g++Be)++[EV.ptr p 0,.slice bl 0 n n false,I o,I b,I u]).set 266 (I B)).set 267 (I C)=_;rw[eH _ _ (by omega),E];show(([EV.ptr D 0]++gL g++Be)++[EV.ptr p 0,.slice bl 0 n n false,I o,I B,I u]).set 267 (I C)=_;rw[eH _ _ (by omega),E];rfl
theorem Att.AD{p:Nat}{q c:Nat->Nat}(a:Att h m D p bl ql np q c S G H)(hb:HB h){C E J:Int}(g:h'.get m=some (.cells (Ab5 D S.g p bl (S.g.D*S.g.Z).toNat C E J) 111))(L:Av (fun i=>i=m) h h'):
 Att h' m D p bl ql np q c { S with a:=C,b:=E,u:=J } G H:=by
 have e:=a.H2.H2;have k:∀i o,h.get i=some o->(∀l,o≠.cells l 111)->h'.get i=some o:=fun i o B O=>L.at hb B fun y=>by
  subst y;rw[e]at B;cases B;exact O _ rfl
 refine⟨⟨g,k _ _ a.H2.Azm (by intros;simp)⟩,⟨a.Gn.pos,k _ _ a.Gn.Gn (by intros;simp),k _ _ a.Gn.row (by intros;simp),fun d hd=>k _ _ (a.Gn.que d hd) (by intros;simp),fun d hd=>k _ _ (a.Gn.chan d hd) (by intros;simp),a.Gn.inj⟩,a.psz,a.drv.chg L fun i T y=>?_,a.apart,a.sub⟩;subst y;exact a.apart.1 T
def v8(disp:Nat->Option FT)(K n:Nat):Prop:=∀T:Jo,T.ev.length<=n->ma disp K T
theorem XB:∀(l:List Y6) (D:Dv) (k:List Y6),(ki l D k).ev.length<=l.length
 | [],_,_=>aE _
 | e::r,D,k=>by
  unfold ki;split
  ·exact aE _
  ·have:=XB r (D.Su e) (k++[e])
   exact Nat.le_succ_of_le this
theorem Jo.Bg5(S:Jo)(i:Int):(S.begin i).ev.length<=S.ev.length:=by
 unfold Jo.begin;split
 ·exact XB _ _ _
 ·exact aE _
theorem Mi.Bjs(S:Mi)(z u:Int):(S.leave z u).1.dr.ev.length<=S.dr.ev.length:=by
 unfold Mi.leave;split
 ·exact aE _
 ·split
  ·exact aE _
  ·exact S.dr.Bg5 z
noncomputable def Mi.close(S:Mi):Mi × Int:=
 (((({ S with a:=-1,b:=-1,u:=0 }:Mi).leave S.a S.u).1.leave S.b S.u).1,if(({ S with a:=-1,b:=-1,u:=0 }:Mi).leave S.a S.u).2=0 then((({ S with a:=-1,b:=-1,u:=0 }:Mi).leave S.a S.u).1.leave S.b S.u).2 else(({ S with a:=-1,b:=-1,u:=0 }:Mi).leave S.a S.u).2)
theorem Azu(A:Bv disp)(hK:10000<K)(hd:17<=d)(o:v8 disp K n)(hn:S.dr.ev.length<=n)(s:R9 h m S H)(hb:HB h)(ha:Rng S.a)(O:Rng S.b):
 Ok (Ag TT disp K d false 163 [.ptr m 0] h) fun v h'=>v=I S.close.2/\R9 h' m S.close.1 (Bk H h h')/\Av H h h'/\HB h':=by
 obtain⟨e,rfl⟩:∃k,d=k+1:=⟨d-1,by omega⟩;rw[Aj9 A (by omega)];obtain⟨lt,D,p,bl,ql,np,q,c,G,a⟩:=s;have ml:=zM D S.g p bl (S.g.D*S.g.Z).toNat S.a S.b S.u;simp only[HX,Aa,a.H2.oa,a.H2.ob,a.H2.ou];refine Ok.kP a.H2.H2 hb rfl rfl (by omega) ?_;intro h1 g1 c1 T
 try simp only[Aa]
 refine Ok.kP g1 T rfl rfl (by rw[bP];omega) ?_;intro h2 g2 c2 U
 try simp only[Aa]
 refine Ok.kP g2 U rfl rfl (by rw[bP,bP];omega) ?_;intro h3 g3 c3 W;rw[show EV.int .i64 (-1)=I (-1)from rfl,show EV.int .i64 0=I 0 from rfl,XA]at g3;have E:=(c1.trans c2).trans c3;have a3:=a.AD hb g3 E;have cH:Av H h h3:=E.mono fun i C=>by subst C;exact a.sub.2.1
 have s3:R9 h3 m { S with a:=-1,b:=-1,u:=0 } H:=⟨fun i C=>aN (lt i C) cH.next,D,p,bl,ql,np,q,c,G,a3⟩;unfold Mi.close;refine(W_ (K:=K) (S:={ S with a:=-1,b:=-1,u:=0 }) A hK (d:=e) (by omega) (o S.dr hn) s3 W ha S.u).Am ?_;have B:=Mi.Bjs { S with a:=-1,b:=-1,u:=0 } S.a S.u;generalize ({ S with a:=-1,b:=-1,u:=0 }:Mi).leave S.a S.u=r at B⊢;rintro _ h4 ⟨rfl,s4,c4,X⟩;refine(W_ (K:=K) A hK (d:=e) (by omega) (o _ (bQ B hn)) s4 X O S.u).Am ?_;rintro _ Y ⟨rfl,s5,c5,J⟩;have L:Av H h h4:=cH.trans c4;have cc:Av H h Y:=L.then c5 fun i C hl=>by
  rcases C with y|y
  ·exact y
  ·have:=cH.next;omega
 have s6:R9 Y m (r.1.leave S.b S.u).1 (Bk H h Y):=s5.mono (fun i C=>by
  rcases C with(y|y)|y
  ·exact .inl y
  ·have:=cH.next;have:=c5.next;exact .inr ⟨by omega,by omega⟩
  ·have:=L.next;exact .inr ⟨by omega,y.2⟩) (Bk.lt lt cc.next)
 simp only[I,Ac];by_cases h0:r.2=0
 ·rw[aM h0,aI h0]
  simp only[Aa,Pu];exact .ret ⟨rfl,s6,cc,J⟩
 ·rw[aJ h0,aG h0]
  simp only[Aa,Pu];exact .ret ⟨rfl,s6,cc,J⟩
def Mi.dropped(S:Mi)(z:Int):Nat->List Int:=if Bp S.g z<0 then S.ps else upd S.ps (Bp S.g z).toNat (Pf z (S.ps (Bp S.g z).toNat))
def Mi.mark(S:Mi)(z:Int):Mi:={ S with bad:=fun i=>if i=z.toNat then 1 else S.bad i,ps:=S.dropped z }
noncomputable def Mi.Ci(S:Mi)(z:Int):Mi × Int:=
 if Bp S.g z<0 then(S,13)else if S.E6 z=true then(S,16)else
 if ¬z=S.a/\¬z=S.b then(S.mark z,0)else((S.mark z).close.1,if(S.mark z).close.2=34 then 34 else 0)
theorem Att.Bsn{p:Nat}{q c:Nat->Nat}(a:Att h m D p bl ql np q c S G H)(hb:HB h){u:Nat->Int}(g:h'.get bl=some (.cells ((List.range (S.g.D*S.g.Z).toNat).map fun z=>I (u z)) 3))(C:Av (fun i=>i=bl) h h'):
 Att h' m D p bl ql np q c { S with bad:=u } G H:=by
 have e:=a.H2.Azm;have k:∀i o,h.get i=some o->(∀l,o≠.cells l 3)->h'.get i=some o:=fun i o B E=>C.at hb B fun y=>by
  subst y;rw[e]at B;cases B;exact E _ rfl
 refine⟨⟨k _ _ a.H2.H2 (by intros;simp),g⟩,⟨a.Gn.pos,k _ _ a.Gn.Gn (by intros;simp),k _ _ a.Gn.row (by intros;simp),fun d hd=>k _ _ (a.Gn.que d hd) (by intros;simp),fun d hd=>k _ _ (a.Gn.chan d hd) (by intros;simp),a.Gn.inj⟩,a.psz,a.drv.chg C fun i J y=>?_,a.apart,a.sub⟩;subst y;exact a.apart.2.1 J
theorem Bk.up{o h2:Ab}(a:h.next<=o.next)(b:o.next<=h2.next)(g:Bk H o h2 i):Bk H h h2 i:=by
 rcases g with y|y
 ·exact .inl y
 ·exact .inr ⟨by omega,y.2⟩
theorem Aos(A:Bv disp)(hK:10000<K)(hd:18<=d)(L:v8 disp K n)(hn:S.dr.ev.length<=n)(s:R9 h m S H)(hb:HB h)(ha:Rng S.a)(ae:Rng S.b){z:Int}(hz:Rng z):
 Ok (Ag TT disp K d false 134 [.ptr m 0,I z] h) fun v h'=>v=I (S.Ci z).2/\R9 h' m (S.Ci z).1 (Bk H h h')/\Av H h h'/\HB h':=by
 obtain⟨e,rfl⟩:∃k,d=k+1:=⟨d-1,by omega⟩;rw[Acx A (by omega)];obtain⟨lt,D,p,bl,ql,np,q,c,G,a⟩:=s;have s:R9 h m S H:=⟨lt,D,p,bl,ql,np,q,c,G,a⟩;have sm:=a.psz.sm;simp only[Uz,Aa,a.H2.pF];refine(J1 sm z hz h).Am ?_;rintro _ h1 ⟨rfl,O⟩;have o:=O.hb hb;have s1:=s.ext hb O;unfold Mi.Ci;simp only[I,Ac];rcases Ip sm z with ag|⟨d0,d1,d2,d3,d4⟩
 ·rw[ag]
  simp only[show(-1:Int)<0 by decide,aC,Aa,bJ];exact .ret ⟨rfl,s1.mono (fun _=>.inl) (Bk.lt lt O.next),Ext.to O,o⟩
 ·rw[aJ (show ¬Bp S.g z<0 by omega),aG (show ¬Bp S.g z<0 by omega)]
  simp only[Aa];refine(Jq (K:=K) s1 o hz).Am ?_;rintro _ h2 ⟨rfl,x2⟩;have C:=x2.hb o;have E:=O.trans x2;cases ax:S.E6 z with
  | true=>
   simp only[Aa,bJ];exact .ret ⟨rfl,(s1.ext o x2).mono (fun _=>.inl) (Bk.lt lt E.next),Ext.to E,C⟩
  | false=>
   simp only[Aa,aX,ak,Rc];obtain⟨ay,D,p,bl,ql,np,q,c,G,a⟩:=s1.ext o x2;obtain⟨j,rfl⟩:∃j:Nat,z=j:=⟨z.toNat,by omega⟩;have hj:j<(S.g.D*S.g.Z).toNat:=by omega
   rw[a.H2.VU,Mw hj,bM,bk];refine Ok.kP a.H2.Azm C rfl rfl (by rw[bh,fJ];exact hj) ?_;intro h3 g3 c3 T;have U:((List.range (S.g.D*S.g.Z).toNat).map fun z=>I (S.bad z)).set j (.int .i64 1)=(List.range (S.g.D*S.g.Z).toNat).map fun z=>I ((S.mark j).bad z):=by
    apply eA;intro i;rw[dR,bD,bD,bh,fJ];by_cases u:j=i
    ·subst u
     rw[aI rfl,aI hj,cP hj];simp[Mi.mark,I]
    ·rw[aG u]
     rcases cb i (S.g.D*S.g.Z).toNat with hl|hg
     ·rw[cP hl]
      have:¬i=j:=fun y=>u y.symm
      simp[Mi.mark,this]
     ·rw[cC (by rw[fJ];exact hg)];rfl
   rw[U]at g3;have a3:=a.Bsn C g3 c3;have ah:Av H h h3:=(Ext.to E).trans (c3.mono fun i u=>by subst u;exact a.sub.2.2.1)
   try simp only[Aa]
   rw[a3.H2.Gn];refine(Bod (K:=K) A (by omega) a3.Gn T a3.psz (d:=e) (by omega) j hz).Am ?_;rintro _ h4 ⟨⟨er,rfl⟩,c4,W,P4,Z4⟩;obtain⟨X,cH⟩:=a3.pO T P4 Z4 c4;have X:Att h4 m D p bl ql np q c (S.mark j) G H:=X;have Y:Av H h h4:=ah.trans cH;have s4:R9 h4 m (S.mark j) H:=⟨fun i u=>aN (lt i u) Y.next,D,p,bl,ql,np,q,c,G,X⟩
   try simp only[Aa]
   rw[X.H2.oa];have close:¬(¬(j:Int)=S.a/\¬(j:Int)=S.b)->Ok (K5 (Ag TT disp K e false) (Ag TT disp K e true) K (.ptr m 0) h4) fun v h'=>v=I (if ¬(j:Int)=S.a/\¬(j:Int)=S.b then(S.mark j,(0:Int))else((S.mark j).close.1,if(S.mark j).close.2=34 then 34 else 0)).2/\R9 h' m (if ¬(j:Int)=S.a/\¬(j:Int)=S.b then(S.mark j,(0:Int))else((S.mark j).close.1,if(S.mark j).close.2=34 then 34 else 0)).1 (Bk H h h')/\Av H h h'/\HB h':=by
    intro ai;rw[aG ai];simp only[K5,dr];refine(Azu (K:=K) A hK (d:=e) (by omega) L (S:=S.mark j) hn s4 W ha ae).Am ?_;rintro _ h5 ⟨rfl,s5,c5,aa⟩;have J:=Y.trans c5;have s6:=s5.mono (fun i u=>Bk.up Y.next c5.next u) (Bk.lt lt J.next);simp only[I,Ac];by_cases B:(S.mark j).close.2=34
    ·rw[aM B,aI B]
     simp only[Aa];exact .ret ⟨rfl,s6,J,aa⟩
    ·rw[aJ B,aG B]
     simp only[Aa,Ro];exact .ret ⟨rfl,s6,J,aa⟩
   simp only[I,Ac]at close⊢;rw[show(S.mark (j:Int)).a=S.a from rfl];by_cases e1:(j:Int)=S.a
   ·rw[show decide (¬(j:Int)=S.a)=false from aJ fun y=>y e1]
    simp only[Aa,Ac,Lk];exact close fun y=>y.1 e1
   ·rw[show decide (¬(j:Int)=S.a)=true from aM e1]
    simp only[Aa,Ac];rw[X.H2.ob];simp only[I,Ac,Lk,Aa];rw[show(S.mark (j:Int)).b=S.b from rfl];by_cases e2:(j:Int)=S.b
    ·rw[show decide (¬(j:Int)=S.b)=false from aJ fun y=>y e2]
     simp only[Aa];exact close fun y=>y.2 e2
    ·rw[show decide (¬(j:Int)=S.b)=true from aM e2]
     simp only[Aa];rw[aI ⟨e1,e2⟩];exact .ret ⟨rfl,s4.mono (fun _=>.inl) (Bk.lt lt Y.next),Y,W⟩
def jL(ps:Nat->List Int)(n:Nat):Option (Int × Int × (Nat->List Int)):=
 if Ft ps n=0 then none else
 some ((ps (Ei ps (-1) n).toNat).headD 0,(ps (Ei ps (Ei ps (-1) n) n).toNat).headD 0,
  upd (upd ps (Ei ps (-1) n).toNat (ps (Ei ps (-1) n).toNat).tail) (Ei ps (Ei ps (-1) n) n).toNat (ps (Ei ps (Ei ps (-1) n) n).toNat).tail)
noncomputable def Mi.ready(S:Mi):Mi × Int:=
 if ¬S.a = -1/\S.u<S.g.S then(S,0)else
 if ¬S.dr.flush.2=0 then({ S with dr:=S.dr.flush.1 },S.dr.flush.2)else
 match jL S.ps S.g.D.toNat with
 | none=>({ S with dr:=S.dr.flush.1 },40)
 | some (x,y,c_)=>({ S with dr:=S.dr.flush.1,ps:=c_,a:=x,b:=y,u:=0 },0)
theorem Azv(A:Bv disp)(hK:10000<K)(hd:16<=d)(W:v8 disp K n)(hn:S.dr.ev.length<=n)(s:R9 h m S H)(hb:HB h):
 Ok (Ag TT disp K d false 147 [.ptr m 0] h) fun v h'=>v=I S.ready.2/\R9 h' m S.ready.1 (Bk H h h')/\Av H h h'/\HB h':=by
 obtain⟨e,rfl⟩:∃k,d=k+1:=⟨d-1,by omega⟩;rw[Akb A (by omega)];obtain⟨lt,D,p,bl,ql,np,q,c,G,a⟩:=s;have s:R9 h m S H:=⟨lt,D,p,bl,ql,np,q,c,G,a⟩;have af:=a.psz.nd;subst af;have es:Hq (.ptr m (1+2)) h=fun k=>k (I S.g.S):=by
  funext k;rw[Cw a.H2.H2 rfl];rfl
 have two:¬(¬S.a = -1/\S.u<S.g.S)->Ok (P0 (Ag TT disp K e false) (Ag TT disp K e true) K (.ptr m 0) h) fun v h'=>v=I S.ready.2/\R9 h' m S.ready.1 (Bk H h h')/\Av H h h'/\HB h':=by
  intro ag;unfold Mi.ready;rw[aG ag];simp only[P0,Aa,a.H2.D4];refine(CI (K:=K) A (by omega) (d:=e) (by omega) (W _ hn) a.drv hb).Am ?_;rintro _ h2 ⟨rfl,d2,c2,B⟩;have J:=a.AB hb d2 c2;have C:Av H h h2:=c2.mono a.sub.1;have L:=Bk.lt lt C.next
  simp only[I,Ac];by_cases Y:S.dr.flush.2=0
  ·rw[aJ (show ¬¬S.dr.flush.2=0 from fun y=>y Y),aG (show ¬¬S.dr.flush.2=0 from fun y=>y Y)]
   simp only[Aa,Xr,J.H2.Gn];refine(Bon (K:=K) J.Gn B J.psz (by omega)).Am ?_;rintro _ h3 ⟨c3,O,hh⟩;rcases hh with⟨p0,rfl,P3⟩|⟨x,y,vx,vy,r,t,hp,f1,f2,hx,hy,a1,e1,e2,rfl,P3,Z3⟩
   ·obtain⟨a3,U⟩:=J.pO B P3 J.psz c3
    have cc:Av H h h3:=C.grow U;have hg:jL S.ps S.g.D.toNat=none:=by unfold jL;rw[aI p0]
    rw[hg];simp only[Aa,I,Ac];simp only[show ¬((15:Int)=0) by decide,aR,aC,Aa];refine .ret ⟨rfl,R9.mono (H:=Bk H h h2) ⟨fun i o=>aN (L i o) c3.next,D,p,bl,ql,_,q,c,_,a3⟩ (fun i o=>Bk.le c3.next o) (Bk.lt lt cc.next),cc,O⟩
   ·obtain⟨a3,U⟩:=J.pO B P3 Z3 c3
    have cc:Av H h h3:=C.grow U;have hg:jL S.ps S.g.D.toNat=some (vx,vy,upd (upd S.ps x r) y t):=by
     unfold jL;have e1:S.ps x=vx::r:=e1;have e2:S.ps y=vy::t:=e2;have f1:Ei S.ps (-1) S.g.D.toNat=x:=f1;have f2:Ei S.ps x S.g.D.toNat=y:=f2;rw[aG hp,f1,f2];simp only[bF,e1,e2,List.headD_cons,List.tail_cons]
    rw[hg];simp only[Aa,I,Ac];simp only[aB,aA,Aa,Xt];have ml:=zM D S.g p bl (S.g.D*S.g.Z).toNat S.a S.b S.u;refine Ok.kP a3.H2.H2 O rfl rfl (by show 265<(Ab5 D S.g p bl (S.g.D*S.g.Z).toNat S.a S.b S.u).length;omega) ?_;intro h4 g4 c4 ao
    try simp only[Aa]
    refine Ok.kP g4 ao rfl rfl (by rw[bP];show 266<(Ab5 D S.g p bl (S.g.D*S.g.Z).toNat S.a S.b S.u).length;omega) ?_;intro h5 g5 c5 aq
    try simp only[Aa]
    refine Ok.kP g5 aq rfl rfl (by rw[bP,bP];show 267<(Ab5 D S.g p bl (S.g.D*S.g.Z).toNat S.a S.b S.u).length;omega) ?_;intro h6 g6 c6 au;have g6:h6.get m=some (.cells ((((Ab5 D S.g p bl (S.g.D*S.g.Z).toNat S.a S.b S.u).set 265 (I vx)).set 266 (I vy)).set 267 (I 0)) 111):=g6;rw[XA]at g6;have E:=(c4.trans c5).trans c6;have a6:=a3.AD O g6 E;have X:Av H h h6:=cc.then (E.mono (T:=fun i=>i=m) fun i o=>o) fun i o _=>by subst o;exact a.sub.2.1
    exact .ret ⟨rfl,R9.mono (H:=Bk H h h2) ⟨fun i o=>aN (L i o) (bQ c3.next E.next),D,p,bl,ql,_,q,c,_,a6⟩ (fun i o=>Bk.le (bQ c3.next E.next) o) (Bk.lt lt X.next),X,au⟩
  ·rw[aM Y,aI Y]
   simp only[Aa];exact .ret ⟨rfl,⟨L,D,p,bl,ql,_,q,c,_,J⟩,C,B⟩
 have done:¬S.a = -1/\S.u<S.g.S->Ok (some (.int .i64 0,h)) fun v h'=>v=I S.ready.2/\R9 h' m S.ready.1 (Bk H h h')/\Av H h h'/\HB h':=fun hy=>by
  unfold Mi.ready;rw[aI hy];exact .ret ⟨rfl,s.mono (fun _=>.inl) (Bk.lt lt (aE _)),Av.refl _,hb⟩
 simp only[LH,Aa,a.H2.oa,I,Ac];by_cases h1:S.a = -1
 ·rw[aJ (show ¬¬S.a = -1 from fun y=>y h1)]
  simp only[Aa,Lj,Ac];exact two fun y=>y.1 h1
 ·rw[aM h1]
  simp only[Aa,Ac,a.H2.ou,es,I];by_cases h2:S.u<S.g.S
  ·rw[aM h2]
   simp only[Lj,Aa];exact done ⟨h1,h2⟩
  ·rw[aJ h2]
   simp only[Lj,Aa];exact two fun y=>h2 y.2
theorem v_ {x:List EV}(o:x.length=64)(u:y.length=64):(Yc x y).length=64:=by unfold Yc;rw[List.length_zipWith,o,u];rfl
theorem U8.at {x:List EV}(u:U8 x)(o:i<x.length):∃a:Nat,a<256/\x[i]=.int .u8 (Int.ofNat a):=by
 obtain⟨l,B,rfl⟩:=u;rw[Bg]at o;exact⟨l[i],B _ (bH _),by simp[Bj]⟩
theorem U8.xor {x:List EV}(o:U8 x)(u:U8 y):U8 (Yc x y):=by
 obtain⟨a,B,rfl⟩:=o;obtain⟨b,hb,rfl⟩:=u;refine⟨List.zipWith Nat.xor a b,fun c C=>?_,?_⟩
 ·obtain⟨i,E,rfl⟩:=List.getElem_of_mem C
  rw[List.getElem_zipWith];rw[List.length_zipWith]at E;exact eK (n:=8) (B _ (bH _)) (hb _ (bH _))
 ·unfold Yc Bj
  rw[List.zipWith_map,List.map_zipWith];rfl
theorem Bla{b2:Nat}{x:List EV}(hx:x.length=64)(hy:y.length=64)(ux:U8 x)(uy:U8 y)(l2:h0.next<=b2)(l3:b2<b3)(l4:b3<b4):∀(m i:Nat) (h:Ab) (l:List EV),64-i<m->i<=64->HB h->Ext h0 h ->
 h.get b2=some (.cells l 30)->l.length=64->(∀j,j<64->l[j]? = if j<i then(Yc x y)[j]? else x[j]?)->h.get b3=some (.cells y 30)->h.get b4=some (.cells Vb 30) ->
 Ok (Kz K m (.ptr b2 0) (.ptr b3 0) (.ptr b4 0) (.int .i64 (i:Int)) h) fun v h'=>v=.agg (Yc x y)/\Ext h0 h'/\HB h':=by
 intro m;induction m with
 | zero=>intro i h l hm;omega
 | succ m ih=>
  intro i h l hm hi hb c L u hj O T;have o:=hb _ _ L;have U:=hb _ _ O;have B:=hb _ _ T;simp only[Kz,Ac];by_cases C:i<64
  ·rw[aM (show(i:Int)<64 by omega)]
   obtain⟨a,ha,Y⟩:=ux.at (i:=i) (by omega);obtain⟨b,W,eb⟩:=uy.at (i:=i) (by omega);have e2:l[i]? = some (.int .u8 (Int.ofNat a)):=by rw[hj i C,aG (bN _),aD (by omega),Y]
   have e3:y[i]? = some (.int .u8 (Int.ofNat b)):=by rw[aD (by omega),eb]
   have ex:(Yc x y)[i]? = some (Nk .u8 (a ^^^ b)):=by
    unfold Yc;rw[List.getElem?_zipWith,aD (show i<x.length by omega),Y,e3];rfl
   simp only[Aa,IK,Xi C,bM,bk];rw[Hb o,Ai L rfl e2,Hb U,Ai O rfl e3,WK ha W,G1];refine Ok.gT L rfl rfl (by omega) ?_;simp only[IJ,Ac];rw[Cl];refine ih (i+1) _ (l.set i (Nk .u8 (a ^^^ b))) (by omega) (by omega) (hb.put o _) (c.Ar (.inr l2) o _) (Ae _ _ _) (by rw[bP];exact u) (fun j X=>?_) ?_ ?_
   ·rw[dR]
    by_cases E:i=j
    ·subst E;rw[aI rfl,aI (by omega),aI (by omega),ex]
    ·rw[aG E,hj j X]
     by_cases J:j<i
     ·rw[aI J,aI (by omega)]
     ·rw[aG J,aG (by omega)]
   ·rw[Af _];exact O
   ·rw[Af _];exact T
  ·have:i=64:=by omega
   subst this;have el:l=Yc x y:=by
    refine eA fun j=>?_
    by_cases J:j<64
    ·rw[hj j J,aI J]
    ·rw[cC (by omega),cC (by rw[v_ hx hy];omega)]
   subst el;simp only[show ¬((64:Nat):Int)<64 by omega,aA,Aa,II];rw[Cy L rfl,Aj u];simp only[Aa];refine Ok.st (Yc x y) T rfl (by show Ga (Yc x y)=64;rw[Bh,u]) (Bn (by rw[Kq];exact u.symm)) ?_;rw[Qz (Ae _ _ _) kz.1 kz.2 u];exact .ret ⟨rfl,c.Ar (.inr (by omega)) B _,hb.put B _⟩
theorem XC{x:List EV}(o:x.length=64)(B:y.length=64)(C:U8 x)(E:U8 y)(hb:HB h)(hK:100<K):
 Ok (O8 K (.agg x) (.agg y) h) fun v h'=>v=.agg (Yc x y)/\Ext h h'/\HB h':=by
 simp only[O8,Aa];have u:Ext h (((h.new (.cells x 30)).new (.cells y 30)).new (.cells (List.replicate 64 (.int .u8 0)) 30)):=((Av.new _ _).Da _).Da _;refine Bla (h0:=h) (x:=x) (y:=y) o B C E (b2:=h.next) (b3:=h.next+1) (b4:=h.next+2) (aE _) (by omega) (by omega) K 0 _ x (by omega) (by omega) (u.hb hb) u ?_ o (fun j _=>by rw[aG (cI _)]) ?_ (Ad _ _)
 ·rw[Ay _ (by show h.next<h.next+1+1;omega),Ay _ (by show h.next<h.next+1;omega)];exact Ad _ _
 ·rw[Ay _ (by show h.next+1<h.next+1+1;omega)];exact Ad _ _
theorem Biz(A:Bv disp){e:Nat}(he:2<=e){x p:List EV}(T:h.get b=some (.cells p 30))(E:x.length=64)(hp:p.length=64)(U:U8 x)(up:U8 p)(hb:HB h)(hK:100<K):
 Ok (T5 (Ag TT disp K e false) (Ag TT disp K e true) (.func 225 [] [.ptr b 0]) [.agg x] h) fun v h'=>v=.agg (Yc x p)/\Ext h h'/\HB h':=by
 obtain⟨d,rfl⟩:∃k,e=k+1:=⟨e-1,by omega⟩;show Ok (Ag TT disp K (d+1) false 225 [.agg x,.ptr b 0] h) _;rw[Ale A (by omega)];simp only[IP,Aa];have C:Ext h ((h.new (.cells x 30)).new (.cells (List.replicate 64 (.int .u8 0)) 30)):=(Av.new _ _).Da _;have L:((h.new (.cells x 30)).new (.cells (List.replicate 64 (.int .u8 0)) 30)).get h.next=some (.cells x 30):=by
  rw[Ay _ (by show h.next<h.next+1;omega)];exact Ad _ _
 have u:((h.new (.cells x 30)).new (.cells (List.replicate 64 (.int .u8 0)) 30)).get (h.next+1)=some (.cells Vb 30):=Ad _ _;rw[show(h.new (.cells x 30)).next=h.next+1 from rfl];generalize (h.new (.cells x 30)).new (.cells (List.replicate 64 (.int .u8 0)) 30)=X at C L u⊢;have B:=C.hb hb;have W:=C.at hb T;rw[Cy L rfl,Aj E];simp only[Aa];rw[Cy W rfl,Aj hp];simp only[Aa];refine(XC (K:=K) E hp U up B hK).Am ?_;rintro _ h2 ⟨rfl,O,o⟩;have u:=O.at B u;have J:=v_ E hp;refine Ok.st (Yc x p) u rfl (by show Ga (Yc x p)=64;rw[Bh,J]) (Bn (by rw[Kq];exact J.symm)) ?_;rw[Qz (Ae _ _ _) kz.1 kz.2 J];exact .ret ⟨rfl,(C.trans O).Ar (.inr (by omega)) (o _ _ u) _,o.put (o _ _ u) _⟩
theorem XD:∀(l vs:List EV),vs.length<=l.length->Jr l vs=some (vs++l.drop vs.length)
 | l,[],_=>by cases l<;>rfl
 | [],_::_,h=>by simp at h
 | a::l,v::vs,h=>by
  show(match Jr l vs with|some x=>some (v::x)|none=>none)=_;rw[XD l vs (by simpa using h)];rfl
theorem XE:∀(l:List EV) (off:Nat) (vs:List EV),off+vs.length<=l.length->F0 l off vs=some (l.take off++vs++l.drop (off+vs.length))
 | [],off,vs,h=>by
  have h0:off=0/\vs = []:=by simp at h;exact⟨h.1,h.2⟩
  obtain⟨rfl,rfl⟩:=h0;rfl
 | a::l,0,vs,h=>by
  show Jr (a::l) vs=_;rw[XD _ _ (by omega)];simp
 | a::l,off+1,vs,h=>by
  show(match F0 l off vs with|some x=>some (a::x)|none=>none)=_;rw[XE l off vs (by simp at h;omega)];simp only[gJ,List.cons_append];rw[show off+1+vs.length=(off+vs.length)+1 by omega,List.drop_succ_cons]
theorem tL {l vs:List EV}(h:off+vs.length<=l.length):Mv l off vs=some (l.take off++vs++l.drop (off+vs.length)):=by rw[U7,XE _ _ _ h]
theorem wa:∀(l:List (List EV)),(∀x∈l,x.length=n)->l.flatten.length=l.length*n
 | [],_=>by simp
 | a::l,hw=>by
  rw[cJ,aF,wa l fun x o=>hw x (aU _ o),hw a (aW ..),bG,gH];omega
theorem AE{l:List (List EV)}(hw:∀x∈l,x.length=n)(hj:j<l.length):l.flatten=(l.take j).flatten++l[j]++(l.drop (j+1)).flatten/\(l.take j).flatten.length=j*n/\l[j].length=n:=by
 refine⟨?_,?_,hw _ (bH _)⟩
 ·have:l=l.take j++l[j]::l.drop (j+1):=by rw[<-dU hj,List.take_append_drop]
  conv=>lhs;rw[this]
  rw[dW,cJ,bY]
 ·rw[wa (n:=n) _ fun x o=>hw x (b9 o),bZ,eV (by omega)]
theorem Bgf{l:List (List EV)}(hw:∀x∈l,x.length=n)(hj:j<l.length):Og l.flatten (j*n) n=some l[j]:=by
 obtain⟨e,o,h2⟩:=AE hw hj;rw[e,Fx (by rw[aF,aF,o,h2];omega),<-o,bY,gU,<-h2,fN]
theorem AX{l:List (List EV)}(hw:∀x∈l,x.length=n)(hj:j<l.length){v:List EV}(u:v.length=n):Mv l.flatten (j*n) v=some (l.set j v).flatten:=by
 obtain⟨e,o,h2⟩:=AE hw hj;have e2:(l.set j v).flatten=(l.take j).flatten++v++(l.drop (j+1)).flatten:=by
  rw[List.set_eq_take_append_cons_drop,aI hj,dW,cJ,bY]
 have B:l.flatten.length=j*n+n+(l.drop (j+1)).flatten.length:=by rw[e,aF,aF,o,h2]
 have t1:l.flatten.take (j*n)=(l.take j).flatten:=by rw[e,bY,<-o,fN]
 have t2:l.flatten.drop (j*n+n)=(l.drop (j+1)).flatten:=by
  rw[show j*n+n=((l.take j).flatten++l[j]).length by rw[aF,o,h2],e,gU]
 rw[tL (by rw[B,u];omega),u,t1,t2,e2]
def Zn.change(Z:Zn)(off:Int)(p:List EV):Zn:=if 0<=off/\off<Z.l.length then { Z with l:=Z.l.set off.toNat (Yc (((Z.l[off.toNat]?).getD Vb)) p) }else Z
theorem Zn.Wf.change{size:Nat}(w:Z.Wf size)(off:Int){p:List EV}(hp:U8 p):(Z.change off p).Wf size:=by
 unfold Zn.change;split
 ·refine⟨fun x o=>?_,w.st,by simp only[bP];exact w.safe,by simp only[bP];exact w.len,by simp only[bP];exact w.room⟩
  rcases dG o with o|o
  ·exact w.u8 x o
  ·rw[o]
   refine U8.xor ?_ hp;cases u:Z.l[off.toNat]? with
   | none=>exact U8.zs
   | some y=>exact w.u8 _ (bc u)
 ·exact w
theorem A1v(A:Bv disp){e:Nat}(he:2<=e){z q size:Nat}(C:Fg h z q size Z)(w:Z.Wf size)(hs:size<=64)(hb:HB h)(off:Int){p:List EV}(hg:h.get b=some (.cells p 30))(hp:p.length=64)(up:U8 p)(hK:100<K):
 Ok (Jt (Ag TT disp K e false) (Ag TT disp K e true) K (.ptr z 0) (I off) (.func 225 [] [.ptr b 0]) h) fun v h'=>v=I (if 0<=off/\off<Z.l.length then 0 else 31)/\Fg h' z q size (Z.change off p)/\Av (fun j=>Z.l≠[]/\j=q) h h'/\HB h':=by
 obtain⟨s,g,r⟩:=C.Al;have X:=hb _ _ g;have no:¬(0<=off/\off<Z.l.length)->Ok (some (I 31,h)) fun v h'=>v=I (if 0<=off/\off<Z.l.length then 0 else 31)/\Fg h' z q size (Z.change off p)/\Av (fun j=>Z.l≠[]/\j=q) h h'/\HB h':=fun Y=>by
  unfold Zn.change;rw[aG Y,aG Y];exact .ret ⟨rfl,C,Av.refl _,hb⟩
 simp only[Jt,I,Ac];by_cases h0:off<0
 ·rw[aM h0]
  simp only[Aa,Ac,Fu];exact no fun y=>by omega
 ·rw[aJ h0]
  simp only[Aa,Ac,Cw g rfl,r.Hg];by_cases W:(Z.l.length:Int)<=off
  ·rw[aM W]
   simp only[Aa,Fu];exact no fun y=>by omega
  ·rw[aJ W]
   obtain⟨j,rfl⟩:∃j:Nat,off=j:=⟨off.toNat,by omega⟩;have hj:j<Z.l.length:=by omega
   have O:=r.block (by omega);have lq:=hb _ _ O;have u:(0:Int)<=(j:Int)/\(j:Int)<Z.l.length:=by omega
   unfold Zn.change;rw[aI u,aI u,bF,aD hj,Option.getD_some];obtain⟨_,B⟩:=(AE C.wf hj).2;simp only[Aa,Fu,N1,As];rw[Hb X,Cw g rfl];simp only[Aa,As];rw[Hb X,Cw g rfl];simp only[Aa,As,r.ix hj];rw[Hb lq,Cn O rfl (Bgf C.wf hj)];simp only[As];refine Ok.bE (Biz (K:=K) A he (h:=h.lift) (by rw[Bx];exact hg) B hp (w.u8 _ (bH _)) up (C8 hb) hK) (fun _ _ p=>p.2.1) ?_;rintro _ W h2 ⟨rfl,_,ab⟩ sm T;have E:=T.hb hb;have J:=T.at hb O;have U:=v_ B hp;rw[G1,Bpp (v:=.agg (Yc Z.l[j] p)) J rfl (by show Ga (Yc Z.l[j] p)=64;rw[Bh,U]) (AX C.wf hj U)];have L:=E _ _ J;refine .ret ⟨rfl,⟨⟨s,?_,?_⟩,fun x o=>?_⟩,(Ext.to T).Ar (.inl ⟨fun y=>by rw[y]at hj;simp at hj,rfl⟩) L _,E.put L _⟩
   ·rw[Af _ (Az O g (by simp))];exact T.at hb g
   ·refine .inr ⟨by rw[bP];omega,by rw[bP];exact r.slice (by omega),Ae _ _ _,?_⟩
    rw[wa (n:=64),bP];intro x o;rcases dG o with o|o
    ·exact C.wf x o
    ·rw[o];exact U
   ·rcases dG o with o|o
    ·exact C.wf x o
    ·rw[o];exact U
theorem A5m(A:Bv disp)(hd:4<=d){D:Dv}(s:Hh h V D F)(hb:HB h)(hK:100<K)(z off:Int){p:List EV}(hp:p.length=64)(up:U8 p):
 Ok (Ag TT disp K d false 209 [.ptr V 0,I z,I off,.agg p] h) fun v h'=>(∃n:Int,v=I n/\(n=0↔D.has z=true/\0<=off/\off<(D.zs z.toNat).l.length))/\Hh h' V (D.mW z off p) (Bk F h h')/\Av F h h'/\HB h':=by
 obtain⟨e,rfl⟩:∃k,d=k+1:=⟨d-1,by omega⟩;rw[Aob A (by omega)];simp only[IH,Aa];have u:Ext h (h.new (.cells p 30)):=Av.new _ _;have J:(h.new (.cells p 30)).get h.next=some (.cells p 30):=Ad _ _
 have o:HB (h.new (.cells p 30)):=hb.new _;have s1:=s.ext u;generalize h.new (.cells p 30)=U at u J o s1⊢;rw[tu s1];unfold Dv.mW;cases L:D.has z with
 | false=>
  simp only[Aa,aX,gk,ak];exact .ret ⟨⟨13,rfl,by simp⟩,s1.grow s.lt u.next,Ext.to u,o⟩
 | true=>
  have W:=dH L;obtain⟨j,rfl⟩:∃j:Nat,z=j:=⟨z.toNat,by omega⟩;have hj:j<D.n:=by omega
  obtain⟨w,wl,zl,X,q,a,b⟩:=s1;have w':=w.zs j hj;simp only[Aa,IF,a.list,a.qQ hj,bF,hH];obtain⟨f,rfl⟩:∃k,e=k+1:=⟨e-1,by omega⟩;rw[Ww A (by omega)];refine(A1v (K:=K) (e:=f) A (by omega) (a.Al j hj) w' w.size o off J hp up hK).Am ?_;rintro _ h2 ⟨rfl,O,c2,B⟩;obtain⟨d3,C⟩:=Hh.Al w a b wl o hj (w'.change off up) O (c2.mono fun _=>.inr) B (fun y=>.inr ⟨rfl,fun e=>y (by unfold Zn.change;split<;>simp[e])⟩);refine .ret ⟨⟨_,rfl,by split<;>simp_all⟩,?_,(Ext.to u).trans C,B⟩;have d4:Hh h2 V (D.set j ((D.zs j).change off p)) (Bk F h h2):=d3.mono (fun i T=>by
   rcases T with y|y
   ·exact .inl y
   ·exact .inr ⟨bQ u.next y.1,y.2⟩) (Bk.lt s.lt (bQ u.next C.next))
  unfold Zn.change at d4;split
  ·rename_i E
   rw[aI E]at d4;exact d4
  ·rename_i E
   rw[aG E]at d4;have e:D.set j (D.zs j)=D:=by
    unfold Dv.set;have:Ik D.zs j (D.zs j)=D.zs:=by funext i;unfold Ik;split<;>simp_all
    rw[this]
   rw[e]at d4;exact d4
theorem Y6.len {e:Y6}(w:e.Wf):e.cells.length=68:=by unfold Y6.cells;rw[aF,w.len];rfl
theorem Y6.XF {e:Y6}(w:e.Wf):Og e.cells 4 64=some e.pat:=by
 rw[Fx (by rw[Y6.len w];omega)];show some ((e.pat).take 64)=_;rw[bS (by rw[w.len];omega)]
theorem Y6.one(e:Y6):e.cells[0]? = some (I e.Ou)/\e.cells[1]? = some (I e.kind)/\e.cells[2]? = some (I e.Al)/\e.cells[3]? = some (I e.off):=⟨rfl,rfl,rfl,rfl⟩
theorem F3.call {o h4:Ab}{M qc qh:Nat}{cs hs:EV}{S:Jo}{dv:Dv}(s:F3 h D S G)(a:Afh h D V M qc qh cs hs ms S F G)(hb:HB h)(d3:Hh o V dv (Bk F h.lift o))(sm:iO o h4)(c4:Av F h h4):
 F3 h4 D { S with dv:=dv } (Bk G h h4)/\Av G h h4/\Afh h4 D V M qc qh cs hs ms { S with dv:=dv } (Bk F h h4) (Bk G h h4):=by
 have d4:Hh h4 V dv (Bk F h h4):=by
  have:=d3.frame (h':=h4) (by rw[sm.next];exact aE _) fun j _=>sm.get j
  refine this.mono (fun j hj=>?_) (Bk.lt a.dev.lt c4.next);rcases hj with y|y
  ·exact .inl y
  ·exact .inr ⟨y.1,by rw[sm.next];exact y.2⟩
 have:=s.put a hb d4 c4;exact⟨this.1,this.2,a.put hb d4 c4⟩
theorem A6p(A:Bv disp)(hK:1000<K)(hd:6<=d){S:Jo}(s:F3 h D S G)(hb:HB h){e:Y6}(w:e.Wf):
 Ok (Ag TT disp K d false 180 [.ptr D 0,.agg e.cells] h) fun v h'=>F3 h' D { S with dv:=S.dv.mW e.Al e.off e.pat } (Bk G h h')/\Av G h h'/\HB h':=by
 obtain⟨dd,rfl⟩:∃k,d=k+1:=⟨d-1,by omega⟩;rw[Apf A (by omega)];simp only[KB,Aa];have x1:Ext h (h.new (.cells e.cells 32)):=Av.new _ _;have C:(h.new (.cells e.cells 32)).get h.next=some (.cells e.cells 32):=Ad _ _
 have J:HB (h.new (.cells e.cells 32)):=hb.new _;have s1:=s.ext x1;have n1:(h.new (.cells e.cells 32)).next=h.next+1:=rfl
 generalize h.new (.cells e.cells 32)=h1 at x1 C J s1 n1⊢;have nx:¬G h.next:=fun y=>bN _ (s.lt _ y)
 obtain⟨V,M,qc,qh,cs,hs,ms,F,a⟩:=s1.Ou;have lD:=J _ _ a.D4;have l3:=J _ _ C;obtain⟨_,_,e2,e3⟩:=e.one;rw[Hb lD,Cw a.D4 rfl]
 try simp only[Aa,As]
 rw[Hb l3,Ai C rfl e2]
 try simp only[Aa,As]
 rw[Hb l3,Ai C rfl e3]
 try simp only[Aa,As]
 rw[Hb l3,Cn C rfl (Y6.XF w)]
 try simp only[Aa,As]
 refine Ok.bC (S:=F) (A5m (K:=K) A (by omega) a.dev.lift (C8 J) (by omega) e.Al e.off w.len w.u8) (fun _ _ p=>p.2.2.1) ?_;rintro _ h3 h4 s' ⟨⟨n,rfl,_⟩,d3,_,aw⟩ sm c4 _;obtain⟨s4,ad,a4⟩:=s1.call a J d3 sm c4;have W:=sm.hb aw;have C:=ad.at J C nx;have fin:∀(u:Ab) (G5:Nat->Prop),F3 u D { S with dv:=S.dv.mW e.Al e.off e.pat } G5->(∀i,G5 i->Bk G h u i)->Av (Bk G h1 h4) h4 u->HB u->Ok (some (.tuple [],u)) fun v h'=>F3 h' D { S with dv:=S.dv.mW e.Al e.off e.pat } (Bk G h h')/\Av G h h'/\HB h':=fun u G5 s5 g5 c5 B=>by
  have cc:Av G h u:=((Ext.to x1).trans ad).then c5 fun j hj hl=>by
   rcases hj with y|y
   ·exact y
   ·omega
  exact .ret ⟨s5.mono g5 (Bk.lt s.lt cc.next),cc,B⟩
 have gr:∀u:Ab,h4.next<=u.next->∀i,Bk G h1 h4 i->Bk G h u i:=fun u l i O=>by
  rcases O with y|y
  ·exact .inl y
  ·exact .inr ⟨by omega,by omega⟩
 simp only[Ac,I];by_cases hn:n=0
 ·subst hn
  simp only[aB,aA,Aa,KA];rw[Ai C rfl e2]
  try simp only[Aa]
  rw[Ai C rfl e3];rw[Ax (l:=[I e.Al,I e.off]) rfl]
  try simp only[Aa]
  have L:Ext h4 (h4.new (.cells [I 0,I 0] 227)):=Av.new _ _;have b8:(h4.new (.cells [I 0,I 0] 227)).get h4.next=some (.cells [I 0,I 0] 227):=Ad _ _
  refine Ok.st [I e.Al,I e.off] (o:=0) (l:=[I 0,I 0]) (Ad _ _) rfl rfl rfl ?_;have L:Ext h4 ((h4.new (.cells [I 0,I 0] 227)).put h4.next (.cells [I e.Al,I e.off] 227)):=(Av.new h4 _:Ext _ _).Ar (.inr (aE _)) (aO _) _;have U:((h4.new (.cells [I 0,I 0] 227)).put h4.next (.cells [I e.Al,I e.off] 227)).get h4.next=some (.cells [I e.Al,I e.off] 227):=Ae _ _ _
  have n5:((h4.new (.cells [I 0,I 0] 227)).put h4.next (.cells [I e.Al,I e.off] 227)).next=h4.next+1:=rfl
  simp only[I]at L U n5⊢;generalize (h4.new (.cells [EV.int .i64 0,.int .i64 0] 227)).put h4.next (.cells [.int .i64 e.Al,.int .i64 e.off] 227)=u at L U n5⊢
  have B:=L.hb W;have s5:=s4.ext L;have C:=L.at W C;have a5:=a4.frame L.next fun i O=>L.get i (s4.lt i O) id
  have az:=B _ _ a5.D4;have a0:=B _ _ U;have ca:=B _ _ C;rw[Hb az,Cw a5.D4 rfl]
  try simp only[Aa,As]
  rw[Hb a0,Cn U rfl (Aj (n:=2) rfl)]
  try simp only[Aa,As]
  obtain⟨p,k,el,up,lp⟩:=Bi5 (h:=u.lift) (by rw[Bx];exact a5.map) a5.marks e.Al e.off;simp only[kp,I]at el;rw[mN el]
  try simp only[Aa,As]
  have T:Ext u ((u.new (.cells (List.replicate 64 (EV.int .u8 0)++[EV.int .i64 0]) 246)).put u.next (.cells (p++[I k]) 246)):=(Av.new u _:Ext _ _).Ar (.inr (aE _)) (aO _) _;have g6:((u.new (.cells (List.replicate 64 (EV.int .u8 0)++[EV.int .i64 0]) 246)).put u.next (.cells (p++[I k]) 246)).get u.next=some (.cells (p++[I k]) 246):=Ae _ _ _
  rw[G1];refine Ok.st (p++[I k]) (Ad _ _) rfl (by show Ga (p++[I k])=65;rw[Bh,aF,lp];rfl) (Bn (by rw[aF,bV];show _=(p++[I k]).length;rw[aF,lp];rfl)) ?_;generalize (u.new (.cells (List.replicate 64 (EV.int .u8 0)++[EV.int .i64 0]) 246)).put u.next (.cells (p++[I k]) 246)=h6 at T g6⊢
  have E:=T.hb B;have s6:=s5.ext T;have C:=T.at B C;have U:=T.at B U;have a6:=a5.frame T.next fun i O=>T.get i (s5.lt i O) id
  have a2:=E _ _ a6.D4;have a3:=E _ _ U;have a8:=E _ _ C;have af:=E _ _ g6
  try simp only[Aa,As]
  rw[Hb a2,Cw a6.D4 rfl]
  try simp only[Aa,As]
  rw[Hb a3,Cn U rfl (Aj (n:=2) rfl)]
  try simp only[Aa,As]
  rw[Hb af,Cn g6 rfl (l':=p) (by rw[Fx (by rw[aF,lp];show 0+64<=64+1;omega),dF,<-lp,fN])]
  try simp only[Aa,As]
  rw[Hb a8,Cn C rfl (Y6.XF w)]
  try simp only[Aa,As]
  refine Ok.bE (XC (K:=K) lp w.len up w.u8 (C8 E) (by omega)) (fun _ _ p=>p.2.1) ?_;rintro _ cf h7 ⟨rfl,_,_⟩ ch X;have Y:=X.hb E;have s7:=s6.ext X;have a7:=a6.frame X.next fun i O=>X.get i (s6.lt i O) id
  have g6:=X.at E g6
  try simp only[Aa,As]
  rw[Hb af,Ai g6 rfl (v:=I k) (by rw[bU (by omega),lp];rfl)];simp only[Aa,As,I,Ac];have xl:=v_ lp w.len;rw[Ax (l:=Yc p e.pat++[I (Dr .i64 (k+1))]) (by
   show jh (Df [(0,64),(64,1)]) [(0,.agg (Yc p e.pat)),(1,.int .i64 (Dr .i64 (k+1)))] (List.replicate 64 (.int .u8 0)++[.int .i64 0])=_;have e1:Mv (List.replicate 64 (EV.int .u8 0)++[EV.int .i64 0]) 0 (Yc p e.pat)=some (Yc p e.pat++[EV.int .i64 0]):=by
    rw[tL (by rw[aF,xl,bV];show 0+64<=64+1;omega),xl];rfl
   have e2:Mv (Yc p e.pat++[EV.int .i64 0]) 64 [EV.int .i64 (Dr .i64 (k+1))]=some (Yc p e.pat++[I (Dr .i64 (k+1))]):=by
    rw[tL (by rw[aF,xl];show 64+1<=64+1;omega),<-xl,fN,dh (by rw[aF];exact aE _),dO]
   show Bb (Nat.beq (Ga (Yc p e.pat)) 64) (oB (fun z=>jh (Df [(0,64),(64,1)]) [(1,.int .i64 (Dr .i64 (k+1)))] z) (Mv (List.replicate 64 (EV.int .u8 0)++[EV.int .i64 0]) 0 (Yc p e.pat))) none=_;rw[Bh,xl,cQ,Ak,e1];show oB (fun z=>some z) (Mv (Yc p e.pat++[EV.int .i64 0]) 64 [EV.int .i64 (Dr .i64 (k+1))])=_;rw[e2];rfl)]
  obtain⟨ah,eu,a9⟩:=A71 (h:=h7.lift) (M:=M) (ms:=ms) (by rw[Bx];exact a7.map) a7.marks e.Al e.off (p:=Yc p e.pat) (n:=Dr .i64 (k+1)) (up.xor w.u8) xl;simp only[kp,I]at eu;have lM:=Y _ _ a7.map;refine Ok.bC (S:=fun i=>i=M) (P:=fun v h'=>v=.tuple []/\h'=h7.lift.put M (.map ah)) ⟨_,_,eu,rfl,rfl⟩ (fun _ _ p=>by rw[p.2];exact(Av.refl (S:=fun i=>i=M) _).Ar (.inl rfl) (h:=h7.lift) lM _) ?_;rintro _ _ h9 cw ⟨rfl,rfl⟩ aj c9 _;obtain⟨s8,c8,cy⟩:=s7.tv a7 Y a9;have e9:∀i,h9.get i=(h7.put M (.map ah)).get i:=fun i=>by
   rw[aj.get,Ab.get_put,Ab.get_put,Bx]
  have n9:h9.next=h7.next:=aj.next
  have s9:=s8.frame (h':=h9) (by rw[n9];exact aE _) fun i _=>e9 i
  refine fin h9 _ s9 (gr h9 (by have:=L.next;have:=T.next;have:=X.next;omega)) ?_ (c9.hb Y);refine((Ext.to L).trans ((Ext.to T).trans (Ext.to X))).then c9 fun i O _=>?_
  subst O;exact a4.sub.2.2.1
 ·simp only[hn,aR,aC,Aa]
  exact fin h4 _ s4 (gr h4 (aE _)) (Av.refl _) W
theorem Afh.own{M qc qh o u:Nat}{cs hs B C:EV}{S:Jo}(a:Afh h D V M qc qh cs hs ms S F G)(hb:HB h){Qc:List Y6}
 (g:h'.get D=some (.cells [.ptr V 0,B,C,.map M] 143)) (rc:Cd h' B o 32 68 ev.length (ev.map Y6.cells).flatten) (U:Cd h' C u 32 68 Qc.length (Qc.map Y6.cells).flatten)
 (n:h.next<=h'.next) (k:∀i,i<h.next->i≠D->(0<S.ev.length->i≠qc)->(0<S.Qc.length->i≠qh)->h'.get i=h.get i) (sz:∀i,G i->i<h.next)
 (O:0<ev.length->h.next<=o/\o<h'.next\/o=qc/\0<S.ev.length) (T:0<Qc.length->h.next<=u/\u<h'.next\/u=qh/\0<S.Qc.length) (ne:0<ev.length->0<Qc.length->o≠u) :
 Afh h' D V M o u B C ms ⟨S.dv,ev,Qc⟩ F (Bk G h h'):=by
 obtain⟨b1,b2,b3,b4,W⟩:=a.sub;obtain⟨c1,c2,c3,c4,c5⟩:=a.apart;have X:=hb _ _ a.map;have Y:h'.get M=h.get M:=k _ X (Az a.map a.D4 (by simp)) (fun y=>Az a.map (a.J3.block y) (by simp)) (fun y=>Az a.map (a.Auh.block y) (by simp));refine⟨g,by rw[Y];exact a.map,a.marks,rc,U,a.dev.frame n fun i E=>k i (sz i (b1 i E)) (fun y=>c1 (y▸E)) (fun y z=>c3 y (z▸E)) (fun y z=>c4 y (z▸E)),⟨fun i E=>.inl (b1 i E),.inl b2,.inl b3,fun y=>?_,fun y=>?_⟩,⟨c1,c2,fun y z=>?_,fun y z=>?_,ne⟩⟩
 ·rcases O y with z|⟨z,J⟩
  ·exact .inr z
  ·rw[z];exact .inl (b4 J)
 ·rcases T y with z|⟨z,J⟩
  ·exact .inr z
  ·rw[z];exact .inl (W J)
 ·rcases O y with x|⟨x,L⟩
  ·have:=sz _ (b1 _ z);omega
  ·rw[x]at z;exact c3 L z
 ·rcases T y with x|⟨x,L⟩
  ·have:=sz _ (b1 _ z);omega
  ·rw[x]at z;exact c4 L z
theorem Bh2(A:Bv disp)(hK:1000<K)(hd:7<=d){S:Jo}(s:F3 h D S G)(hb:HB h){e:Y6}(w:e.Wf)(hn:S.ev.length+S.Qc.length<200):
 Ok (Ag TT disp K d false 155 [.ptr D 0,.agg e.cells] h) fun v h'=>F3 h' D { S with dv:=S.dv.Su e,Qc:=S.Qc++[e] } (Bk G h h')/\Av G h h'/\HB h':=by
 obtain⟨dd,rfl⟩:∃k,d=k+1:=⟨d-1,by omega⟩;rw[Aoc A (by omega)];simp only[LI,Aa];have x1:Ext h (h.new (.cells e.cells 32)):=Av.new _ _;have B:(h.new (.cells e.cells 32)).get h.next=some (.cells e.cells 32):=Ad _ _
 have O:HB (h.new (.cells e.cells 32)):=hb.new _;have s1:=s.ext x1;have n1:(h.new (.cells e.cells 32)).next=h.next+1:=rfl
 generalize h.new (.cells e.cells 32)=h1 at x1 B O s1 n1⊢;have nx:¬G h.next:=fun y=>bN _ (s.lt _ y)
 obtain⟨V,M,qc,qh,cs,hs,ms,F,a⟩:=s1.Ou;have lD:=O _ _ a.D4;have l3:=O _ _ B;have el:=Y6.len w;rw[Hb lD,Cw a.D4 rfl]
 try simp only[Aa,As]
 rw[Hb l3,Cn B rfl (Aj el)]
 try simp only[Aa,As]
 rw[Wb (v:=.agg e.cells) (z:=List.replicate 4 (EV.int .i64 0)++List.replicate 64 (EV.int .u8 0)) rfl (by simp) el,Au];obtain⟨h2,e_,x2,gx,n2⟩:=nW h1 (.cells (EV.cells (.agg e.cells)) 32);rw[e_];have C:=x2.hb O;have B:=x2.at O B;have s2:=s1.ext x2;have J:=a.frame x2.next fun i X=>x2.get i (s1.lt i X) id
 have r2:Cd h2.lift hs qh 32 68 S.Qc.length (S.Qc.map Y6.cells).flatten:=J.Auh.frame fun _=>Bx _ _
 obtain⟨h3,e3,r3,n3,c3⟩:=pX (x:=.slice h1.next 0 1 1 false) (n:=1) r2 rfl (by omega) (by omega) (by omega) (X1 (b:=h1.next) (by rw[Bx];exact gx) el) (by rw[el]);refine Ok.bC (S:=fun i=>0<S.Qc.length/\i=qh) (P:=fun v h'=>v=.slice h2.lift.next 0 (S.Qc.length+1) (S.Qc.length+1) true/\h'=h3) ⟨_,_,e3,rfl,rfl⟩ (fun _ _ p=>by rw[p.2];exact c3) ?_;rintro _ _ h4 s' ⟨rfl,rfl⟩ sm x4 a8;have Y:=x4.hb C;rw[rS]at r3 n3;rw[rS];have a9:¬(0<S.Qc.length/\D=qh):=fun y=>Az J.D4 (J.Auh.block y.1) (by simp) y.2
 have gD:h4.get D=some (.cells [.ptr V 0,cs,hs,.map M] 143):=Av.at x4 C J.D4 a9;have r4:Cd h4 (.slice h2.next 0 (S.Qc.length+1) (S.Qc.length+1) true) h2.next 32 68 (S.Qc.length+1) ((S.Qc.map Y6.cells).flatten++e.cells):=r3.frame fun _=>sm.get _
 have B:h4.get h.next=some (.cells e.cells 32):=Av.at x4 C B fun y=>by
  have:=J.Auh.block y.1;exact Az B this (by simp) y.2
 have ab:=Y _ _ gD
 try simp only[Aa]
 rw[G1 (by rcases a8 with rfl|⟨w,rfl,_⟩<;>kernel_rfl)];refine Ok.gT gD rfl rfl (by show 2<4;decide) ?_;simp only[List.set];have bb:=Y _ _ B;have ao:h2.next<h4.next:=by
  have:=r4.block (by omega);exact Y _ _ this
 have T:(h4.put D (.cells [EV.ptr V 0,cs,.slice h2.next 0 (S.Qc.length+1) (S.Qc.length+1) true,.map M] 143)).get D=some (.cells [EV.ptr V 0,cs,.slice h2.next 0 (S.Qc.length+1) (S.Qc.length+1) true,.map M] 143):=Ae _ _ _;have k5:∀i,i≠D->(h4.put D (.cells [EV.ptr V 0,cs,.slice h2.next 0 (S.Qc.length+1) (S.Qc.length+1) true,.map M] 143)).get i=h4.get i:=fun i X=>Af _ (cY X)
 have n5:(h4.put D (.cells [EV.ptr V 0,cs,.slice h2.next 0 (S.Qc.length+1) (S.Qc.length+1) true,.map M] 143)).next=h4.next:=rfl
 have E:HB (h4.put D (.cells [EV.ptr V 0,cs,.slice h2.next 0 (S.Qc.length+1) (S.Qc.length+1) true,.map M] 143)):=Y.put ab _;have c5:Av (Bk G h1 h2) h2 (h4.put D (.cells [EV.ptr V 0,cs,.slice h2.next 0 (S.Qc.length+1) (S.Qc.length+1) true,.map M] 143)):=(x4.mono (fun i X=>.inl (by rw[X.2];exact J.sub.2.2.2.2 X.1))).Ar (.inl (.inl a.sub.2.1)) ab _;generalize h4.put D (.cells [EV.ptr V 0,cs,.slice h2.next 0 (S.Qc.length+1) (S.Qc.length+1) true,.map M] 143)=o at T k5 n5 E c5⊢;have au:h.next≠D:=fun y=>nx (y▸a.sub.2.1)
 have B:o.get h.next=some (.cells e.cells 32):=by rw[k5 _ au];exact B
 have aw:D<o.next:=by rw[n5];exact ab
 have ax:h.next<o.next:=by rw[n5];exact bb
 have a5:Afh o D V M qc h2.next cs (.slice h2.next 0 (S.Qc.length+1) (S.Qc.length+1) true) ms ⟨S.dv,S.ev,S.Qc++[e]⟩ F (Bk G h2 o):=by
  refine J.own C T ?_ ?_ c5.next (fun i X h1 _ h3=>?_) s2.lt (fun y=>.inr ⟨rfl,y⟩) (fun _=>.inl ⟨aE _,by rw[n5];exact ao⟩) (fun y _=>?_)
  ·refine J.J3.frame fun y=>?_
   have gc:=J.J3.block y;rw[k5 _ (Az gc J.D4 (by simp)),Av.at x4 C gc fun z=>J.apart.2.2.2.2 y z.1 z.2,gc]
  ·rw[aF,cR,dW]
   show Cd o _ _ 32 68 (S.Qc.length+1) ((S.Qc.map Y6.cells).flatten++(e.cells++[]));rw[dO];exact r4.frame fun _=>k5 _ (by have:=C _ _ J.D4;omega)
  ·rw[k5 i h1]
   exact x4.get i X fun y=>h3 y.1 y.2
  ·have:=C _ _ (J.J3.block y);omega
 have bf:∀i,Bk G h2 o i->i<o.next:=Bk.lt s2.lt c5.next
 have s5:F3 o D ⟨S.dv,S.ev,S.Qc++[e]⟩ (Bk G h2 o):=by
  refine⟨bf,⟨by rw[aF];show S.ev.length+(S.Qc.length+1)<=200;omega,s.wf.wf,fun x hx=>?_⟩,V,M,qc,_,cs,_,ms,F,a5⟩;rcases bR.1 hx with hx|hx
  ·exact s.wf.hwf x hx
  ·rw[aP.1 hx];exact w
 have a0:Av G h o:=((Ext.to x1).trans (Ext.to x2)).then c5 fun j hj hl=>by
  rcases hj with y|y
  ·exact y
  ·omega
 have cG:∀u,o.next<=u.next->Av (Bk G h2 o) o u->Av G h u:=fun u l c=>a0.then c fun j hj hl=>by
  rcases hj with y|y
  ·exact y
  ·have:=x1.next;have:=x2.next;omega
 have fin:∀(u:Ab) (dv:Dv),F3 u D ⟨dv,S.ev,S.Qc++[e]⟩ (Bk (Bk G h2 o) o u)->Av (Bk G h2 o) o u->HB u->dv=S.dv.Su e->Ok (some (.tuple [],u)) fun v h'=>F3 h' D ⟨S.dv.Su e,S.ev,S.Qc++[e]⟩ (Bk G h h')/\Av G h h'/\HB h':=fun u dv s9 L U he=>by
  subst he;refine .ret ⟨s9.mono (fun i X=>?_) (Bk.lt s.lt (cG u L.next L).next),cG u L.next L,U⟩;rcases X with(y|y)|y
  ·exact .inl y
  ·have:=x1.next;have:=x2.next;have:=L.next;exact .inr ⟨by omega,by omega⟩
  ·exact .inr ⟨by have:=a0.next;omega,y.2⟩
 obtain⟨_,e1,e2,_⟩:=e.one;rw[Ai B rfl e1];simp only[Ac,I];have W:∀st:Nat,S.dv.fail e.Al st=S.dv.Su e ->
  Ok (Ld 6 63 (((DX.ld ⟨0,[],[],[],[]⟩ 3 D).ld 5 h.next)) o (fun h=>O2 K (.ptr V 0) (I e.Al) (I st) h) fun _ h s=>some (.tuple [],h)) fun v h'=>F3 h' D ⟨S.dv.Su e,S.ev,S.Qc++[e]⟩ (Bk G h h')/\Av G h h'/\HB h':=by
  intro st bj;refine Ok.bC (S:=F) (A9k (K:=K) a5.dev.lift (C8 E) e.Al st) (fun _ _ p=>p.2.1) ?_;rintro _ h6 u s' ⟨d6,_,bn⟩ sm L _;obtain⟨s9,ae,_⟩:=s5.call a5 E d6 sm L;exact fin u _ s9 ae (sm.hb bn) bj
 by_cases k1:e.kind=1
 ·simp only[k1,aC,Aa]
  rw[Cn B rfl (Aj el)];refine(A6p (K:=K) A hK (by omega) s5 E w).Am ?_;rintro _ u ⟨s9,L,U⟩;exact fin u _ s9 L U (by unfold Dv.Su;rw[aI k1])
 ·simp only[k1,aA,Aa]
  by_cases k2:e.kind=2
  ·simp only[k2,aC,Aa,As]
   rw[Hb aw,Cw T rfl]
   try simp only[Aa,As]
   rw[Hb ax,Ai B rfl e2];exact W 3 (by unfold Dv.Su;rw[aG k1,aI k2])
  ·simp only[k2,aA,Aa]
   by_cases k3:e.kind=3
   ·simp only[k3,aC,Aa,As]
    rw[Hb aw,Cw T rfl]
    try simp only[Aa,As]
    rw[Hb ax,Ai B rfl e2];exact W 4 (by unfold Dv.Su;rw[aG k1,aG k2,aI k3])
   ·simp only[k3,aA,Aa]
    by_cases k4:e.kind=4
    ·simp only[k4,aC,Aa,Cw T rfl]
     refine(A7s (K:=K) a5.dev E).Am ?_;rintro _ u ⟨d9,L,U⟩;obtain⟨s9,ae⟩:=s5.put a5 E (d9.grow a5.dev.lt L.next) L;exact fin u _ s9 ae U (by unfold Dv.Su;rw[aG k1,aG k2,aG k3,aI k4])
    ·simp only[k4,aA,Aa]
     exact fin o S.dv (s5.grow s5.lt (aE _)) (Av.refl _) E (by unfold Dv.Su;rw[aG k1,aG k2,aG k3,aG k4])
theorem Bg4(q o n r:Nat)(op:Bool)(k:EV->R):J5 iW (bin TT .eql 141) (.slice q o n r op) .Aq k=k (.bool false):=by kernel_rfl
theorem Bdk(q o z:Nat)(k:EV->R):J5 iW (bin TT .eql 141) (.tail q o z) .Aq k=k (.bool false):=by kernel_rfl
theorem A5x{q:Nat}{e:Y6}(w:∀x∈e::ev,x.Wf)(U:ev.length<=65000)(E:h.get q=some (.vec ((e::ev).map Y6.cells).flatten 32 68))(hb:HB h){kk:EV->Ab->R}
 (B:∀v h' q',Cd h' v q' 32 68 ev.length (ev.map Y6.cells).flatten->Ext h h'->(0<ev.length->h.next<=q')->Ok (kk v h') Q) :
 Ok (iD 68 (.slice q 0 (e::ev).length (e::ev).length true) (some (.int .i64 1)) none none fun v=>Am (Dw K v h) kk) Q:=by
 have o:Ext h (h.new (.cells [] 32)):=Av.new _ _;have C:Bz (List.replicate 4 (.int .i64 0)++List.replicate 64 (.int .u8 0)) 32 68 0 [] h=some (.slice h.next 0 0 0 false,h.new (.cells [] 32)):=rfl;have wl:∀x∈ev.map Y6.cells,x.length=68:=fun x J=>by
  obtain⟨y,L,rfl⟩:=cW.1 J;exact Y6.len (w y (aU _ L))
 have fl:(ev.map Y6.cells).flatten.length=ev.length*68:=by rw[wa _ wl,bh]
 rcases dY ev.length with h0|hp
 ·have:ev = []:=cS.1 h0
  subst this;have e1:∀k:EV->R,iD 68 (.slice q 0 [e].length [e].length true) (some (.int .i64 1)) none none k=k (.tail q 68 0):=fun k=>rfl
  rw[e1];simp only[Dw,Bdk,Aa,F7];rw[C,Au];have:Eo 32 68 (.slice h.next 0 0 0 false) (.tail q 68 0) (h.new (.cells [] 32))=some (.slice h.next 0 0 0 false,h.new (.cells [] 32)):=by unfold Eo;rfl
  rw[this,Au]
  try simp only[Aa]
  exact B _ _ 0 (.empty _ _ _ _ _) o fun y=>absurd y (bN _)
 ·obtain⟨m,hm⟩:∃m,ev.length=m+1:=⟨ev.length-1,by omega⟩
  have e1:∀k:EV->R,iD 68 (.slice q 0 (e::ev).length (e::ev).length true) (some (.int .i64 1)) none none k=k (.slice q 68 ev.length ev.length true):=fun k=>by
   rw[bG,hm];rfl
  rw[e1];simp only[Dw,Bg4,Aa,F7];rw[C,Au];have O:O9 (h.new (.cells [] 32)) 68 ev.length (.slice q 68 ev.length ev.length true)=some (ev.map Y6.cells).flatten:=by
   show Bb (Nat.beq ev.length 0) (some []) (Yz _ q 68 (Nat.mul ev.length 68))=_;rw[show Nat.beq ev.length 0=false by rw[hm];rfl,Bm];unfold Yz mA;rw[o.at hb E];have el:=Y6.len (w e (aW ..));show Og (e.cells++(ev.map Y6.cells).flatten) 68 (ev.length*68)=_;rw[Fx (by rw[aF,el,fl];exact aE _),<-el,gU,bS (by rw[fl,el];exact aE _)]
  have ap:=Yy (h:=h.new (.cells [] 32)) (b:=h.next) (e:=32) (x:=.slice q 68 ev.length ev.length true) rfl (by omega) O fl 0;rw[show ∀(x:R) (k u:EV->Ab->R),Am (Am x k) u=Am x fun v h=>Am (k v h) u from fun x k u=>by cases x<;>rfl];refine ap.Am ?_;rintro v h2 ⟨q',r,T,l⟩;rw[Au];exact B v h2 q' r (o.trans T) fun y=>by have:=l y;have:=o.next;omega
theorem Bk0(A:Bv disp)(hK:1000<K)(hd:9<=d):∀(m:Nat) (S:Jo) (h:Ab) (G:Nat->Prop),S.ev.length<m->F3 h D S G->HB h ->
 Ok (Ka (Ag TT disp K d false) (Ag TT disp K d true) K m (.ptr D 0) h) fun v h'=>F3 h' D S.due (Bk G h h')/\Av G h h'/\HB h':=by
 intro m;induction m with
 | zero=>intro S h G hm;omega
 | succ m ih=>
  intro S h G hm s hb;obtain⟨V,M,qc,qh,cs,hs,ms,F,a⟩:=s.Ou;obtain⟨zl,z,q,b,_⟩:=a.dev.Ou;have lD:=hb _ _ a.D4;have lV:=hb _ _ b.dev;have stay:S.due=S->Ok (some (.tuple [],h)) fun(_:EV) h'=>F3 h' D S.due (Bk G h h')/\Av G h h'/\HB h':=fun y=>by
   rw[y];exact .ret ⟨s.grow s.lt (aE _),Av.refl _,hb⟩
  simp only[Ka,Aa,As,Cp lD,Cw a.D4 rfl];have W:Th K (.ptr V 0) h.lift=some (.bool S.dv.down,h.lift):=by
   simp only[Th,Aa,Cw b.lift.dev rfl]
  rw[mN W];obtain⟨dv,ev,Qc⟩:=S;simp only at a W b hm⊢;cases X:dv.down with
  | true=>
   simp only[Aa,Ac,As,Nr,Ki];refine stay ?_;unfold Jo.due;cases ev with
   | nil=>rfl
   | cons e r=>unfold ki;rw[aI (.inl X)]
  | false=>
   simp only[Aa,Ac,As];rw[Hb lD,Cw a.D4 rfl];simp only[Aa,a.J3.Hg,Ac];cases ev with
   | nil=>
    simp only[fS,Nr,Ki,Aa,Ac];exact stay rfl
   | cons e r=>
    have we:=s.wf.wf e (aW ..);have el:=Y6.len we;have gq:=a.J3.block (Nat.succ_pos _);have lq:=hb _ _ gq;have c0:Og (((e::r).map Y6.cells).flatten) 0 68=some e.cells:=by
     show Og (e.cells++_) 0 68=_;rw[Fx (by rw[aF,el];omega),dF,<-el,fN]
    have aj:(((e::r).map Y6.cells).flatten)[0]? = some (I e.Ou):=rfl;rw[aM (show(0:Int)<((e::r).length:Int) by rw[bG];omega)];simp only[Nr,Aa,Ac,As];rw[Hb lD,Cw a.D4 rfl]
    try simp only[Aa,As]
    rw[show ∀k:EV->R,ir 68 cs (.int .i64 0) k=k (.ptr qc (0*68))from fun k=>a.J3.ix (Nat.succ_pos _) .i64 k]
    try simp only[Aa,As]
    rw[Hb lq,Ai gq rfl aj]
    try simp only[Aa,As]
    rw[Hb lD,Cw a.D4 rfl]
    try simp only[Aa,As]
    have al:Rj K (.ptr V 0) h.lift=some (I dv.cnt,h.lift):=by
     simp only[Rj,Aa,Cw b.lift.dev rfl]
    rw[mN al];simp only[I,Ac];by_cases E:e.Ou<=dv.cnt
    ·rw[aM E]
     simp only[Ki,Aa,JJ,Cw a.D4 rfl];rw[show ∀k:EV->R,ir 68 cs (.int .i64 0) k=k (.ptr qc (0*68))from fun k=>a.J3.ix (Nat.succ_pos _) .i64 k];rw[Cn gq rfl c0]
     try simp only[Aa]
     have ao:(List.replicate 4 (EV.int .i64 0)++List.replicate 64 (EV.int .u8 0)).length=68:=by simp
     refine Ok.st e.cells (Ad _ _) rfl (by show Ga e.cells=68;rw[Bh,el]) (Bn (by rw[ao];exact el.symm)) ?_;obtain⟨L,e_,U,g2,_⟩:=nP h (.cells (List.replicate 4 (EV.int .i64 0)++List.replicate 64 (EV.int .u8 0)) 32) (.cells e.cells 32);rw[e_];have o:=U.hb hb;have s1:=s.ext U;have u:=a.frame U.next fun i B=>U.get i (s.lt i B) id
     have au:=u.J3.block (Nat.succ_pos _);have aw:=u.J3.slice (Nat.succ_pos _);subst aw;simp only[Aa,Cw u.D4 rfl];have ax:=s.wf.ev;refine A5x (K:=K) s.wf.wf (by simp only[bG]at ax;omega) au o ?_;intro v h2 q' r2 C O;have T:=C.hb o;have s2:=s1.ext C;have a2:=u.frame C.next fun i B=>C.get i (s1.lt i B) id
     have g2:=C.at o g2
     try simp only[Aa]
     have Y:=T _ _ a2.D4;refine Ok.gT a2.D4 r2.plain.1 r2.plain.2 (by show 1<4;decide) ?_;simp only[List.set];have aa:(h2.put D (.cells [EV.ptr V 0,v,hs,.map M] 143)).get D=some (.cells [EV.ptr V 0,v,hs,.map M] 143):=Ae _ _ _;have k3:∀i,i≠D->(h2.put D (.cells [EV.ptr V 0,v,hs,.map M] 143)).get i=h2.get i:=fun i B=>Af _ (cY B)
     have ab:HB (h2.put D (.cells [EV.ptr V 0,v,hs,.map M] 143)):=T.put Y _;have c3:Av G h2 (h2.put D (.cells [EV.ptr V 0,v,hs,.map M] 143)):=(Av.refl h2).Ar (.inl a.sub.2.1) Y _;have n3:(h2.put D (.cells [EV.ptr V 0,v,hs,.map M] 143)).next=h2.next:=rfl
     generalize h2.put D (.cells [EV.ptr V 0,v,hs,.map M] 143)=J at aa k3 ab c3 n3⊢;have nD:h.next≠D:=by omega
     have g3:J.get h.next=some (.cells e.cells 32):=by rw[k3 _ nD];exact g2
     have rb:0<r.length->q'<h2.next:=fun y=>T _ _ (r2.block y)
     have a3:Afh J D V M q' qh v hs ms ⟨dv,r,Qc⟩ F (Bk G L J):=by
      have ay:L.next<=J.next:=by rw[n3];exact C.next
      have ad:∀i,i<L.next->i≠D->J.get i=L.get i:=fun i B az=>by rw[k3 i az,C.get i B id]
      refine u.own o aa (r2.frame fun y=>k3 _ (by have:=O y;have:=o _ _ u.D4;omega)) (u.Auh.frame fun y=>ad _ (o _ _ (u.Auh.block y)) (Az (u.Auh.block y) u.D4 (by simp))) ay (fun i B L _ _=>ad i B L) s1.lt
       (fun y=>.inl ⟨O y,by rw[n3];exact rb y⟩) (fun y=>.inr ⟨rfl,y⟩) fun y z=>?_
      have:=O y;have:=o _ _ (u.Auh.block z);omega
     have a0:Av G h J:=((Ext.to U).trans (Ext.to C)).trans c3;have s3:F3 J D ⟨dv,r,Qc⟩ (Bk G L J):=by
      refine⟨Bk.lt s1.lt (by rw[n3];exact C.next),⟨?_,fun x hx=>s.wf.wf x (aU _ hx),s.wf.hwf⟩,V,M,q',qh,v,hs,ms,F,a3⟩;have:=s.wf.ev;simp only[bG]at this⊢;omega
     rw[Cn g3 rfl (Aj el)];refine(Bh2 (K:=K) A hK (by omega) s3 ab we (by have:=s.wf.ev;simp only[bG]at this⊢;omega)).Am ?_;rintro _ h4 ⟨s4,c4,a4⟩;have ae:(Jo.mk dv (e::r) Qc).due=(Jo.mk (dv.Su e) r (Qc++[e])).due:=by
      unfold Jo.due
      conv=>lhs;unfold ki
      rw[aG (by rw[X];rintro(y|y);exact absurd y (by simp);exact y E)]
     rw[ae];refine(ih ⟨dv.Su e,r,Qc++[e]⟩ h4 _ (by simp only[bG]at hm⊢;omega) s4 a4).mono ?_;rintro _ h5 ⟨s5,c5,a5⟩;have t1:=U.next
     have t2:=C.next
     have t4:=c4.next
     have t5:=c5.next
     have a6:Av G h h4:=a0.then c4 fun j hj hl=>by
      rcases hj with y|y
      ·exact y
      ·omega
     have af:Av G h h5:=a6.then c5 fun j hj hl=>by
      rcases hj with(y|y)|y
      ·exact y
      ·omega
      ·omega
     refine⟨s5.mono (fun i B=>?_) (Bk.lt s.lt af.next),af,a5⟩;rcases B with((y|y)|y)|y
     ·exact .inl y
     ·exact .inr ⟨by omega,by omega⟩
     ·exact .inr ⟨by omega,by omega⟩
     ·exact .inr ⟨by omega,y.2⟩
    ·rw[aJ E]
     simp only[Ki,Aa];refine stay ?_;unfold Jo.due ki;rw[aI (.inr E)]
theorem rn(A:Bv disp)(hK:1000<K)(S:Jo):∀d,12<=d->WI disp K d S:=by
 intro d hd h D G s hb;obtain⟨e,rfl⟩:∃k,d=k+1:=⟨d-1,by omega⟩;rw[Atm A (by omega)];exact Bk0 (K:=K) A hK (by omega) K S h G (by have:=s.wf.ev;omega) s hb
section
def Out(F:Nat->Prop)(h:Ab):Nat->Prop:=fun i=>i<h.next/\¬F i
abbrev Kf(F:Nat->Prop):Ab->Ab->Prop:=Av fun i=>¬F i
theorem Av.kf(c:Av (Out F h) h h'):Kf F h h':=c.mono fun _ y=>y.2
theorem Ext.kf(c:Ext h h'):Kf F h h':=Ext.to c
theorem Kf.less(c:Kf F h h')(s:∀i,F' i->F i):Kf F' h h':=c.mono fun i y z=>y (s i z)
theorem Kf.at(c:Kf F h h')(hb:HB h){o:D3}(g:h.get i=some o)(u:F i):h'.get i=some o:=Av.at c hb g fun y=>y u
theorem Ext.ow{o h2:Ab}(x:Ext h o)(c:Kf (Bk F h o) o h2):Kf F h h2:=by
 refine(Ext.to (S:=fun i=>¬F i) x).then c fun i y u z=>y (.inl z)
theorem R9.frame(s:R9 h m S H)(n:h.next<=h'.next)(e:∀i,H i->h'.get i=h.get i):R9 h' m S H:=by
 obtain⟨lt,D,p,bl,ql,np,q,c,G,a⟩:=s;obtain⟨t1,t2,t3,t4,t5,t6⟩:=a.sub;have k:∀i o,h.get i=some o->H i->h'.get i=some o:=fun i o g u=>by rw[e i u];exact g
 exact⟨fun i u=>aN (lt i u) n,D,p,bl,ql,np,q,c,G,⟨k _ _ a.H2.H2 t2,k _ _ a.H2.Azm t3⟩,
  ⟨a.Gn.pos,k _ _ a.Gn.Gn t4,k _ _ a.Gn.row t5,fun d hd=>k _ _ (a.Gn.que d hd) (t6 d hd).1,fun d hd=>k _ _ (a.Gn.chan d hd) (t6 d hd).2,a.Gn.inj⟩,
  a.psz,a.drv.frame n fun i u=>e i (t1 i u),a.apart,a.sub⟩
structure Mi.Wp(S:Mi):Prop where
 sm:Sm S.g
 ps:∀d,d<S.g.D.toNat->∀x∈S.ps d,Bp S.g x=d/\¬S.bad x.toNat=1
structure Mi.Wf(S:Mi):Prop extends S.Wp where
 op:(S.a = -1/\S.b = -1)\/((0<=Bp S.g S.a/\¬S.bad S.a.toNat=1)/\(0<=Bp S.g S.b/\¬S.bad S.b.toNat=1))
theorem Yf(s:Sm g){z:Int}(h:0<=Bp g z):Rng z:=by
 have o:=s.d1;have h2:=s.z1;have u:=s.d0;have h4:=s.z0;rcases Ip s z with y|⟨_,_,_,C,E⟩
 ·omega
 ·obtain⟨J,m1⟩:=Q6 (a:=g.D) (b:=g.Z) (A:=8) (B:=64)
  exact⟨by omega,by omega⟩
theorem Iq(s:Sm g){z:Int}(h:0<=Bp g z:=by omega):0<=z:=by
 rcases Ip s z with y|⟨_,_,_,o,u⟩<;>omega
theorem Mi.Wf.rng(w:S.Wf):Rng S.a/\Rng S.b:=by
 rcases w.op with⟨o,h2⟩|⟨o,h2⟩
 ·rw[o,h2];exact⟨⟨by omega,by omega⟩,⟨by omega,by omega⟩⟩
 ·exact⟨Yf w.sm o.1,Yf w.sm h2.1⟩
theorem XG(w:∀d,d<g.D.toNat->∀x∈ps d,Bp g x=d/\P x)(n:Nat)(z:Int)(u:0<=Bp g z->P z):∀d,d<g.D.toNat->∀x∈(We g n ps z).2 d,Bp g x=d/\P x:=by
 intro d hd x o;unfold We at o;split at o
 ·exact w d hd x o
 ·rename_i h0
  split at o
  ·exact w d hd x o
  ·split at o
   ·simp only[upd]at o
    split at o
    ·rename_i e
     subst e;rcases bR.1 o with o|o
     ·exact w _ hd x o
     ·rw[aP.1 o];exact⟨by omega,u (by omega)⟩
    ·exact w d hd x o
   ·exact w d hd x o
theorem wT(S:Mi)(z u:Int):(S.leave z u).1.g=S.g/\(S.leave z u).1.a=S.a/\(S.leave z u).1.b=S.b/\(S.leave z u).1.u=S.u/\(S.leave z u).1.bad=S.bad:=by
 unfold Mi.leave;split
 ·exact⟨rfl,rfl,rfl,rfl,rfl⟩
 ·split<;>exact⟨rfl,rfl,rfl,rfl,rfl⟩
theorem Mi.Wp.leave(w:S.Wp)(z u:Int):(S.leave z u).1.Wp:=by
 unfold Mi.leave;split
 ·exact w
 ·rename_i h0
  split
  ·refine⟨w.sm,XG w.ps _ _ fun o y=>h0 (.inr (.inl ?_))⟩
   unfold Mi.E6;rw[aM o,aM y];rfl
  ·exact⟨w.sm,w.ps⟩
theorem AF(S:Mi):S.close.1.g=S.g/\S.close.1.a = -1/\S.close.1.b = -1/\S.close.1.u=0/\S.close.1.bad=S.bad:=by
 unfold Mi.close;obtain⟨o,B,C,E,J⟩:=wT { S with a:=-1,b:=-1,u:=0 } S.a S.u;obtain⟨b1,b2,b3,b4,L⟩:=wT (({ S with a:=-1,b:=-1,u:=0 }:Mi).leave S.a S.u).1 S.b S.u;exact⟨b1.trans o,b2.trans B,b3.trans C,b4.trans E,L.trans J⟩
theorem Mi.Wp.close(w:S.Wp):S.close.1.Wf:=by
 have:({ S with a:=-1,b:=-1,u:=0 }:Mi).Wp:=⟨w.sm,w.ps⟩;obtain⟨C,o,B,E,J⟩:=AF S;exact { toWp:=(this.leave _ _).leave _ _,op:=.inl ⟨o,B⟩ }
theorem Mi.Wp.mark(w:S.Wp){z:Int}(C:0<=Bp S.g z):(S.mark z).Wp:=by
 refine⟨w.sm,fun d hd x o=>?_⟩;have o:x∈S.dropped z d:=o;unfold Mi.dropped at o;rw[aG (by omega)]at o;have key:∀x,Bp S.g x=d/\¬S.bad x.toNat=1->¬x=z->Bp S.g x=d/\¬(S.mark z).bad x.toNat=1:=fun x o E=>by
  refine⟨o.1,?_⟩;show ¬(if x.toNat=z.toNat then(1:Int)else S.bad x.toNat)=1;have u:=Iq w.sm C;have h2:=Iq w.sm (z:=x) (by rw[o.1];omega);rw[aG (by omega)];exact o.2
 simp only[upd]at o;split at o
 ·rename_i e
  have h2:=(eJ.1 o).2;have u:=w.ps d hd x (by rw[e];exact(eJ.1 o).1);exact key x u (dH h2)
 ·rename_i B
  have u:=w.ps d hd x o;refine key x u fun y=>B ?_
  subst y;omega
theorem Mi.Wf.Ci(w:S.Wf)(z:Int):(S.Ci z).1.Wf:=by
 unfold Mi.Ci;split
 ·exact w
 ·rename_i o
  have o:0<=Bp S.g z:=by omega
  split
  ·exact w
  ·split
   ·rename_i u
    refine { toWp:=w.toWp.mark o,op:=?_ };rcases w.op with y|⟨C,E⟩
    ·exact .inl y
    ·have key:∀x,(0<=Bp S.g x/\¬S.bad x.toNat=1)->¬z=x->0<=Bp S.g x/\¬(S.mark z).bad x.toNat=1:=fun x B u=>by
      refine⟨B.1,?_⟩;show ¬(if x.toNat=z.toNat then(1:Int)else S.bad x.toNat)=1;have J:=Iq w.sm o;have h2:=Iq w.sm B.1;rw[aG (by omega)];exact B.2
     exact .inr ⟨key _ C u.1,key _ E u.2⟩
   ·exact(w.toWp.mark o).close
theorem sY{c_:Nat->List Int}{x y:Int}(w:∀d,d<g.D.toNat->∀x∈ps d,Bp g x=d/\P x)(h:jL ps g.D.toNat=some (x,y,c_)):
 ∃a b:Nat,a<g.D.toNat/\b<g.D.toNat/\a≠b/\ps a=x::c_ a/\ps b=y::c_ b/\(∀d,d≠a->d≠b->c_ d=ps d)/\Ei ps (-1) g.D.toNat=a/\Ei ps a g.D.toNat=b/\(Bp g x=a/\P x)/\(Bp g y=b/\P y):=by
 unfold jL at h;split at h
 ·cases h
 ·rename_i hp
  obtain⟨a,b,e1,e2,L,h2,O,h4,T⟩:=WB hp WC;rw[e1,e2]at h;injection h with h;injection h with u h;injection h with B o;simp only[bF]at u B o;obtain⟨U,r,C⟩:∃x r,ps a=x::r:=by cases E:ps a with|nil=>exact absurd E h4|cons x r=>exact⟨x,r,rfl⟩
  obtain⟨W,t,J⟩:∃x r,ps b=x::r:=by cases E:ps b with|nil=>exact absurd E T|cons x r=>exact⟨x,r,rfl⟩
  rw[C]at u o;rw[J]at B o;simp only[List.headD_cons,List.tail_cons]at u B o;subst u;subst B;subst o;refine⟨a,b,L,h2,O,?_,?_,fun d d1 d2=>?_,e1,e2,w a L _ (by rw[C];exact aW ..),w b h2 _ (by rw[J];exact aW ..)⟩
  ·rw[C];simp[upd,O]
  ·rw[J];simp[upd]
  ·simp[upd,d1,d2]
theorem Mi.Wf.ready(w:S.Wf):S.ready.1.Wf:=by
 unfold Mi.ready;split
 ·exact w
 ·split
  ·exact { toWp:=⟨w.sm,w.ps⟩,op:=w.op }
  ·cases hp:jL S.ps S.g.D.toNat with
   | none=>exact { toWp:=⟨w.sm,w.ps⟩,op:=w.op }
   | some t=>
    obtain⟨x,y,c_⟩:=t;obtain⟨a,b,L,h2,O,u,B,C,_,_,E,J⟩:=sY w.ps hp;refine { toWp:=⟨w.sm,fun d hd z o=>?_⟩,op:=.inr ⟨⟨by show 0<=Bp S.g x;omega,E.2⟩,⟨by show 0<=Bp S.g y;omega,J.2⟩⟩ };have o:z∈c_ d:=o;refine w.ps d hd z ?_;by_cases d1:d=a
    ·subst d1;rw[u];exact aU _ o
    ·by_cases d2:d=b
     ·subst d2;rw[B];exact aU _ o
     ·rw[C d d1 d2]at o;exact o
structure Db(h:Ab)(m:Nat)(S:Mi)(F:Nat->Prop):Prop where
 s:R9 h m S (Out F h)
 lt:∀i,F i->i<h.next
 wf:S.Wf
section
variable{S':Mi}
theorem Db.made(M:Db h m S F)(s:R9 h' m S' (Bk (Out F h) h h'))(c:Av (Out F h) h h')(w:S'.Wf):Db h' m S' F/\Kf F h h':=by
 refine⟨⟨s.mono (fun i o=>?_) fun i o=>o.1,fun i o=>aN (M.lt i o) c.next,w⟩,c.kf⟩;rcases o with o|o
 ·exact⟨aN o.1 c.next,o.2⟩
 ·exact⟨o.2,fun y=>by have:=M.lt i y;omega⟩
theorem Db.ext(M:Db h m S F)(hb:HB h)(x:Ext h h'):Db h' m S (Bk F h h'):=by
 refine⟨(M.s.ext hb x).mono (fun i o=>⟨aN o.1 x.next,fun y=>?_⟩) fun i o=>o.1,Bk.lt M.lt x.next,M.wf⟩;rcases y with y|y
 ·exact o.2 y
 ·have:=o.1;omega
theorem Db.less(M:Db h m S F)(s:∀i,F' i->F i):Db h m S F':=
 ⟨M.s.mono (fun i o=>⟨o.1,fun y=>o.2 (s i y)⟩) fun i o=>o.1,fun i o=>M.lt i (s i o),M.wf⟩
theorem Db.iI {T:Nat->Prop}(M:Db h m S F)(c:Av T h h')(t:∀i,T i->i<h.next->F i):Db h' m S F:=by
 refine⟨(M.s.frame c.next fun i o=>c.get i o.1 fun y=>o.2 (t i y o.1)).mono (fun i o=>⟨aN o.1 c.next,o.2⟩) fun i o=>o.1,fun i o=>aN (M.lt i o) c.next,M.wf⟩
theorem Db.same(M:Db h m S F)(sm:iO h h'):Db h' m S F:=
 ⟨(M.s.frame (by rw[sm.next];exact aE _) fun i _=>sm.get i).mono (fun i o=>⟨by rw[sm.next];exact o.1,o.2⟩) fun i o=>o.1,fun i o=>by rw[sm.next];exact M.lt i o,M.wf⟩
end
section
variable (A:Bv disp)(hK:10000<K)(M:Db h m S F)(hb:HB h)
include A hK M hb
theorem XH(n:Nat):v8 disp K n:=fun T _ d hd=>rn A (by omega) T d hd
theorem Bh8(hd:16<=d):Ok (Ag TT disp K d false 147 [.ptr m 0] h) fun v h'=>v=I S.ready.2/\Db h' m S.ready.1 F/\Kf F h h'/\HB h':=by
 refine(Azv A hK hd (XH A hK M hb S.dr.ev.length) (aE _) M.s hb).mono ?_;rintro v h' ⟨e,s,c,o⟩;obtain⟨u,k⟩:=M.made s c M.wf.ready;exact⟨e,u,k,o⟩
theorem XI(hd:18<=d){z:Int}(u:Rng z):Ok (Ag TT disp K d false 134 [.ptr m 0,I z] h) fun v h'=>v=I (S.Ci z).2/\Db h' m (S.Ci z).1 F/\Kf F h h'/\HB h':=by
 refine(Aos A hK hd (XH A hK M hb S.dr.ev.length) (aE _) M.s hb M.wf.rng.1 M.wf.rng.2 u).mono ?_;rintro v h' ⟨e,s,c,o⟩;obtain⟨B,k⟩:=M.made s c (M.wf.Ci z);exact⟨e,B,k,o⟩
end
end
theorem F3.lift{S:Jo}(d:F3 h D S G):F3 h.lift D S G:=d.frame (aE _) fun i _=>Bx h i
theorem F3.same {o h4:Ab}{S:Jo}(d:F3 o D S (Bk G h.lift o))(sm:iO o h4):F3 h4 D S (Bk G h h4):=by
 refine(d.frame (h':=h4) (by rw[sm.next];exact aE _) fun j _=>sm.get j).mono (fun j hj=>?_) fun j hj=>?_
 ·rcases hj with y|y
  ·exact .inl y
  ·exact .inr ⟨y.1,by rw[sm.next];exact y.2⟩
 ·rw[sm.next]
  rcases hj with y|y
  ·exact d.lt _ (.inl y)
  ·rw[sm.next]at y;exact y.2
theorem Db.drv{p:Nat}{q c:Nat->Nat}{dr:Jo}(M:Db h m S F)(hb:HB h)(a:Att h m D p bl ql np q c S G (Out F h))(d:F3 h' D dr (Bk G h h'))(o:Av G h h'):
 Db h' m { S with dr:=dr } F/\Kf F h h':=by
 have cH:=o.mono a.sub.1;exact M.made ⟨Bk.lt M.s.lt cH.next,D,p,bl,ql,np,q,c,_,a.AB hb d o⟩ cH { toWp:=⟨M.wf.sm,M.wf.ps⟩,op:=M.wf.op }
noncomputable def Mi.put(S:Mi)(e:En)(Al Bf Ao seq:Int):Mi × Int:=
 if ¬(Ex { e with Bf:=Bf } Al S.u Ao seq).2=0 then(S,(Ex { e with Bf:=Bf } Al S.u Ao seq).2)else
 ({ S with dr:=(S.dr.append Al (Bj (L6 (Ex { e with Bf:=Bf } Al S.u Ao seq).1))).1 },
  if(S.dr.append Al (Bj (L6 (Ex { e with Bf:=Bf } Al S.u Ao seq).1))).2.2=0/\¬(S.dr.append Al (Bj (L6 (Ex { e with Bf:=Bf } Al S.u Ao seq).1))).2.1=S.u then 30 else(S.dr.append Al (Bj (L6 (Ex { e with Bf:=Bf } Al S.u Ao seq).1))).2.2)
theorem AG:List.replicate 5 (EV.int .i64 0)++List.replicate 44 (EV.int .u8 0)=Fr.zero.cells:=by kernel_rfl
theorem XJ(A:Bv disp)(hK:10000<K)(hd:16<=d)(M:Db h m S F)(hb:HB h)(w:e.Wf)(Al Bf Ao seq:Int):
 Ok (Ag TT disp K d false 177 [.ptr m 0,.agg e.cells,I Al,I Bf,I Ao,I seq] h) fun v h'=>v=I (S.put e Al Bf Ao seq).2/\Db h' m (S.put e Al Bf Ao seq).1 F/\Kf F h h'/\HB h':=by
 obtain⟨dd,rfl⟩:∃k,d=k+1:=⟨d-1,by omega⟩;rw[An1 A (by omega)];have w':({ e with Bf:=Bf }:En).Wf:=⟨w.len,w.u8⟩;have el:=En.Bc w;have U:=En.Bc w';obtain⟨_,D,p,bl,ql,np,q,c,G,a⟩:=M.s;simp only[MF,Aa];refine Ok.gT (Ad _ _) rfl rfl (by show 5<e.cells.length;omega) ?_;obtain⟨h1,W,x1,X,_⟩:=nP h (.cells e.cells 131) (.cells (e.cells.set 5 (I Bf)) 131);rw[W];have X:h1.get h.next=some (.cells ({ e with Bf:=Bf }:En).cells 131):=X
 unfold Mi.put;generalize ({ e with Bf:=Bf }:En)=e' at X w' U⊢;have C:=x1.hb hb;have l7:=C _ _ X;have m1:=a.H2.ext fun i o g=>x1.at hb g
 have lm:=C _ _ m1.H2;rw[Hb l7,Cy X rfl,Aj U]
 try simp only[Aa,As]
 rw[Hb lm,m1.ou]
 try simp only[As]
 refine Ok.bE (z_ (K:=K) w' (C8 C) hK Al S.u Ao seq) (fun _ _ p=>p.2) ?_;rintro _ a8 h2 ⟨rfl,_⟩ _ x2;have ai:=x2.hb C;have Y:=z' w' Al S.u Ao seq;generalize aa:Ex e' Al S.u Ao seq=fe at Y⊢;obtain⟨f,er⟩:=fe;have fl:=Fr.Bc Y;have zl:=Fr.Bc Fr.Gz;simp only[Aa,AG,As];rw[G1];refine Ok.st f.cells (Ad _ _) rfl (by show Ga f.cells=49;rw[Bh,fl]) (Bn (by rw[zl];exact fl.symm)) ?_;obtain⟨h3,W,x3,ab,_⟩:=nP h2 (.cells Fr.zero.cells 167) (.cells f.cells 167);rw[W];have B:=x3.hb ai;have E:Ext h h3:=(x1.trans x2).trans x3;simp only[I,Ac];by_cases he:er=0
 ·subst he
  simp only[aB,aA,Aa,ak,ME];obtain⟨hf,al,_,_⟩:=WZ w' (Al:=Al) (off:=S.u) (Ao:=Ao) (seq:=seq) (by rw[aa]);rw[aa]at hf;have hf:f=_:=hf;have ao:hY f=true:=by rw[hf];exact al
  have m3:=a.H2.ext fun i o g=>E.at hb g
  have au:=B _ _ m3.H2;have aw:=B _ _ ab
  try simp only[As]
  rw[Hb au,m3.table]
  try simp only[Aa,As]
  rw[Hb aw,Cy ab rfl,Aj fl]
  try simp only[Aa,As]
  refine Ok.bE (BX (K:=K) Y ao (C8 B) hK) (fun _ _ p=>p.2) ?_;rintro _ bf h4 ⟨rfl,_⟩ _ x4;have ax:=x4.hb B;have ul:(Bj (L6 f)).length=64:=by rw[Bg,ot Y]
  try simp only[Aa,As]
  rw[G1];refine Ok.st (Bj (L6 f)) (Ad _ _) rfl (by show Ga (Bj (L6 f))=64;rw[Bh,ul]) (Bn (by rw[bV];exact ul.symm)) ?_;obtain⟨h5,W,x5,ad,_⟩:=nP h4 (.cells (List.replicate 64 (EV.int .u8 0)) 30) (.cells (Bj (L6 f)) 30);rw[W];have J:=x5.hb ax;have ae:Ext h h5:=(E.trans x4).trans x5;have M5:=M.ext hb ae;clear m3 m1 a;obtain⟨_,D,p,bl,ql,np,q,c,G,a⟩:=M5.s;have ay:=J _ _ a.H2.H2;have az:=J _ _ ad;simp only[MD,Aa,Ac,I,aB,aA,As];rw[Hb ay,a.H2.D4]
  try simp only[Aa,As]
  rw[Hb az,Cy ad rfl,Aj ul]
  try simp only[Aa,As]
  refine Ok.bC (S:=G) (CJ (K:=K) A (by omega) (d:=dd) (by omega) (fun k hk=>rn A (by omega) S.dr k hk) a.drv.lift (C8 J) Al ul ⟨_,wO Y,rfl⟩) (fun _ _ p=>p.2.2.1) ?_;rintro _ h6 h7 s' ⟨rfl,d6,_,a0⟩ sm c7 _;have L:=sm.hb a0;obtain⟨O,k7⟩:=M5.drv J a (d6.same sm) c7;have T:Kf F h h7:=ae.ow k7;have O:=O.less fun i (hi:F i)=>Or.inl hi
  generalize S.dr.append Al (Bj (L6 f))=ap at O⊢;obtain⟨dr,off,er⟩:=ap;obtain⟨_,D,p,bl,ql,np,q,c,G,a⟩:=O.s;simp only[Aa,I,Ac];by_cases h0:er=0
  ·simp only[h0,aC,Aa,a.H2.ou,I,Ac,hH]
   by_cases h1:off=S.u
   ·simp only[h1,aB,aA,Aa,Np,Ns,ak]
    exact .ret ⟨rfl,O,T,L⟩
   ·simp only[h1,aR,aC,Aa,Np,Ns,bJ]
    exact .ret ⟨rfl,O,T,L⟩
  ·simp only[h0,aA,Aa,Np,Ns,gk,ak]
   exact .ret ⟨rfl,O,T,L⟩
 ·simp only[he,aR,aC,Aa,bJ]
  exact .ret ⟨rfl,(M.ext hb E).less fun i (hi:F i)=>Or.inl hi,E.kf,B⟩
noncomputable def Mi.both(S:Mi)(e:En)(Ao seq:Int):Mi × Int × Int:=
 if ¬(S.put e S.a S.b Ao seq).2=0 then((S.put e S.a S.b Ao seq).1,S.a,(S.put e S.a S.b Ao seq).2)else
 (((S.put e S.a S.b Ao seq).1.put e S.b S.a Ao seq).1,S.b,((S.put e S.a S.b Ao seq).1.put e S.b S.a Ao seq).2)
theorem Bj4(A:Bv disp)(hK:10000<K)(hd:17<=d)(M:Db h m S F)(hb:HB h)(w:e.Wf)(Ao seq:Int):
 Ok (Ag TT disp K d false 148 [.ptr m 0,.agg e.cells,I Ao,I seq] h) fun v h'=>v=.tuple [I (S.both e Ao seq).2.1,I (S.both e Ao seq).2.2]/\Db h' m (S.both e Ao seq).1 F/\Kf F h h'/\HB h':=by
 obtain⟨dd,rfl⟩:∃k,d=k+1:=⟨d-1,by omega⟩;rw[Amr A (by omega)];have el:=En.Bc w;simp only[HS,Aa];obtain⟨Y,U,E,C,n1⟩:=nW h (.cells e.cells 131);rw[U];have o:=E.hb hb;have O:=M.ext hb E;obtain⟨_,D,p,bl,ql,np,q,c,G,a⟩:=O.s;rw[a.H2.oa]
 try simp only[Aa]
 rw[a.H2.ob,Cy C rfl,Aj el]
 try simp only[Aa]
 refine(XJ A hK (by omega) O o w S.a S.b Ao seq).Am ?_;rintro _ h2 ⟨rfl,M2,T,u⟩;have B:Kf F h h2:=E.ow T;have C:=T.at o C (.inr ⟨aE _,by omega⟩);unfold Mi.both;simp only[I,Ac];by_cases h0:(S.put e S.a S.b Ao seq).2=0
 ·simp only[h0,aB,aA,Aa,ak,Zx]
  rw[Cy C rfl,Aj el]
  try simp only[Aa]
  have M2:=M2.less fun i (J:F i)=>Or.inl J
  refine(XJ A hK (by omega) M2 u w S.b S.a Ao seq).Am ?_;rintro _ h3 ⟨rfl,W,X,L⟩;exact .ret ⟨rfl,W,B.trans X,L⟩
 ·simp only[h0,aR,aC,Aa,bJ]
  exact .ret ⟨rfl,M2.less fun i (J:F i)=>Or.inl J,B,u⟩
theorem Bh0(D:Nat)(g:Gm)(p bl n:Nat)(a b u o:Int):(Ab5 D g p bl n a b u).set 267 (I o)=Ab5 D g p bl n a b o:=by
 unfold Ab5;have B:([EV.ptr D 0]++gL g++Be).length=263:=by rw[aF,Pr];rfl
 rw[eH _ _ (by omega),B];rfl
noncomputable def Mi.kR(S:Mi):Mi:={ S with u:=Dr .i64 (S.u+1) }
theorem Mi.Wf.kR(w:S.Wf):S.kR.Wf:={ toWp:=⟨w.sm,w.ps⟩,op:=w.op }
theorem XK(M:Db h m S F)(hb:HB h)(C:∀h',Db h' m S.kR F->Kf F h h'->HB h'->Ext h h'\/True->h'.next=h.next->(∀i,F i->h'.get i=h.get i)->Ok (kk h') Q):
 Ok (Hq (.ptr m 267) h fun v=>J5 kU (bin TT .add 3) v (.int .i64 1) fun w=>f_ 1 (.ptr m 267) w h kk) Q:=by
 obtain⟨lt,D,p,bl,ql,np,q,c,G,a⟩:=M.s;rw[a.H2.ou];simp only[I,Ac];have ml:=zM D S.g p bl (S.g.D*S.g.Z).toNat S.a S.b S.u;have lm:=hb _ _ a.H2.H2;refine Ok.gT a.H2.H2 rfl rfl (by omega) ?_;rw[show EV.int .i64 (Dr .i64 (S.u+1))=I (Dr .i64 (S.u+1))from rfl,Bh0];have c1:Av (fun i=>i=m) h (h.put m (.cells (Ab5 D S.g p bl (S.g.D*S.g.Z).toNat S.a S.b (Dr .i64 (S.u+1))) 111)):=(Av.refl (S:=fun i=>i=m) h).Ar (.inl rfl) lm _;have E:=a.AD hb (Ae _ _ _) c1;have B:∀i,F i->i≠m:=fun i o y=>by subst y;exact a.sub.2.1.2 o
 refine C _ ⟨⟨fun i o=>o.1,D,p,bl,ql,np,q,c,G,?_⟩,fun i o=>M.lt i o,M.wf.kR⟩ (c1.mono fun i o y=>B i y o) (hb.put lm _) (.inr trivial) rfl (fun i o=>Af _ (cY (B i o)));exact E
noncomputable def Mi.Om(B:Mi × Int × Int):Mi:=if B.2.1=B.1.b then B.1.kR else B.1
def Me.zero:Me:=⟨0,0,0,0,0,0⟩
noncomputable def Mi.Si(e:En)(Ao seq:Int):Nat->Mi->Mi × Me × Int
 | 0,S=>(S,Me.zero,0)
 | n+1,S=>
  if ¬S.ready.2=0 then(S.ready.1,Me.zero,S.ready.2)else
  if(S.ready.1.both e Ao seq).2.2=0 then((S.ready.1.both e Ao seq).1.kR,⟨1,(S.ready.1.both e Ao seq).1.a,(S.ready.1.both e Ao seq).1.b,(S.ready.1.both e Ao seq).1.u,seq,Fl e.bytes⟩,0)else
  if(S.ready.1.both e Ao seq).2.2=34 then((S.ready.1.both e Ao seq).1,Me.zero,34)else
  if((Mi.Om (S.ready.1.both e Ao seq)).Ci (S.ready.1.both e Ao seq).2.1).2=34 then(((Mi.Om (S.ready.1.both e Ao seq)).Ci (S.ready.1.both e Ao seq).2.1).1,Me.zero,34)else
  Si e Ao seq n ((Mi.Om (S.ready.1.both e Ao seq)).Ci (S.ready.1.both e Ao seq).2.1).1
noncomputable def Mi.place(S:Mi)(e:En)(Ao seq:Int):Mi × Me × Int:=
 if ¬(Ex e 0 0 Ao seq).2=0 then(S,Me.zero,(Ex e 0 0 Ao seq).2)else Mi.Si e Ao seq 1000 S
noncomputable def oo(bad:Nat->Int)(n:Nat):Nat:=((List.range n).filter fun i=>¬bad i=1).length
theorem Bm9(bad:Nat->Int)(n:Nat):oo bad n<=n:=by
 unfold oo;have:=fH (fun i=>decide (¬bad i=1)) (List.range n);simpa using this
theorem Bcg(bad:Nat->Int){z:Nat}(u:z<n)(hb:¬bad z=1):oo (fun i=>if i=z then 1 else bad i) n<oo bad n:=by
 unfold oo;induction n with
 | zero=>omega
 | succ n ih=>
  rw[dE,fG,fG,aF,aF];by_cases h:z=n
  ·subst h
   have e1:((List.range z).filter fun i=>decide (¬(if i=z then(1:Int)else bad i)=1))=(List.range z).filter fun i=>decide (¬bad i=1):=by
    refine List.filter_congr fun i o=>?_
    have:=dL.1 o;rw[aG (by omega)]
   have e2:([z].filter fun i=>decide (¬(if i=z then(1:Int)else bad i)=1)) = []:=by simp
   have e3:([z].filter fun i=>decide (¬bad i=1)) = [z]:=by simp[hb]
   rw[e1,e2,e3];simp
  ·have:=ih (by omega)
   have e2:([n].filter fun i=>decide (¬(if i=z then(1:Int)else bad i)=1)) = [n].filter fun i=>decide (¬bad i=1):=by
    have:¬n=z:=fun y=>h y.symm
    rw[eh,eh];simp[this]
   rw[e2];omega
theorem CQ(S:Mi):S.ready.1.g=S.g/\S.ready.1.bad=S.bad:=by
 unfold Mi.ready;split
 ·exact⟨rfl,rfl⟩
 ·split
  ·exact⟨rfl,rfl⟩
  ·split<;>exact⟨rfl,rfl⟩
theorem wV(S:Mi)(e:En)(Al Bf Ao seq:Int):(S.put e Al Bf Ao seq).1.g=S.g/\(S.put e Al Bf Ao seq).1.bad=S.bad/\(S.put e Al Bf Ao seq).1.a=S.a/\(S.put e Al Bf Ao seq).1.b=S.b/\(S.put e Al Bf Ao seq).1.u=S.u/\(S.put e Al Bf Ao seq).1.ps=S.ps:=by
 unfold Mi.put;split<;>exact⟨rfl,rfl,rfl,rfl,rfl,rfl⟩
theorem Bst(S:Mi)(e:En)(Ao seq:Int):(S.both e Ao seq).1.g=S.g/\(S.both e Ao seq).1.bad=S.bad/\(S.both e Ao seq).1.a=S.a/\(S.both e Ao seq).1.b=S.b/\(S.both e Ao seq).1.u=S.u/\(S.both e Ao seq).1.ps=S.ps /\
 ((S.both e Ao seq).2.1=S.a\/(S.both e Ao seq).2.1=S.b):=by
 unfold Mi.both;obtain⟨o,B,C,E,J,L⟩:=wV S e S.a S.b Ao seq;obtain⟨b1,b2,b3,b4,O,T⟩:=wV (S.put e S.a S.b Ao seq).1 e S.b S.a Ao seq;split
 ·exact⟨o,B,C,E,J,L,.inl rfl⟩
 ·exact⟨b1.trans o,b2.trans B,b3.trans C,b4.trans E,O.trans J,T.trans L,.inr rfl⟩
theorem Bp0(B:Mi × Int × Int):(Mi.Om B).g=B.1.g/\(Mi.Om B).bad=B.1.bad/\(Mi.Om B).a=B.1.a/\(Mi.Om B).b=B.1.b:=by
 unfold Mi.Om;split<;>exact⟨rfl,rfl,rfl,rfl⟩
theorem A75(S:Mi)(z:Int):(S.Ci z).1.g=S.g:=by
 unfold Mi.Ci;split
 ·rfl
 ·split
  ·rfl
  ·split
   ·rfl
   ·exact(AF _).1
theorem Azs(w:S.Wf){z:Int}(u:0<=Bp S.g z)(hb:¬S.bad z.toNat=1):oo (S.Ci z).1.bad (S.g.D*S.g.Z).toNat<oo S.bad (S.g.D*S.g.Z).toNat:=by
 have o:(S.Ci z).1.bad=fun i=>if i=z.toNat then 1 else S.bad i:=by
  unfold Mi.Ci;rw[aG (by omega),aG (by unfold Mi.E6;rw[aJ hb,dI];simp)];split
  ·rfl
  ·exact(AF _).2.2.2.2
 rw[o];refine Bcg S.bad ?_ hb;rcases Ip w.sm z with y|⟨_,_,_,B,C⟩<;>omega
theorem Bca(w:S.Wf)(h:S.ready.2=0):(0<=Bp S.ready.1.g S.ready.1.a/\¬S.ready.1.bad S.ready.1.a.toNat=1)/\(0<=Bp S.ready.1.g S.ready.1.b/\¬S.ready.1.bad S.ready.1.b.toNat=1):=by
 rcases w.ready.op with⟨y,_⟩|y
 ·exfalso
  revert h y;unfold Mi.ready;split
  ·rename_i h0;intro _ y;exact h0.1 y
  ·split
   ·rename_i u;intro y _;exact u y
   ·cases hp:jL S.ps S.g.D.toNat with
    | none=>intro y _;simp at y
    | some t=>
     obtain⟨x,y,c_⟩:=t;obtain⟨a,b,_,_,_,_,_,_,_,_,B,_⟩:=sY w.ps hp;intro _ o;have o:x = -1:=o;have:=Iq w.sm (z:=x) (by rw[B.1];omega);omega
 ·exact y
theorem kQ:TT.size 47=some 6/\TT.agg 47=some true:=⟨by kernel_rfl,by kernel_rfl⟩
theorem Bdc(A:Bv disp)(hK:10000<K)(hd:19<=d)(w:e.Wf)(Ao seq:Int){b5 C:Nat}:∀(n f:Nat) (h:Ab) (S:Mi) (F:Nat->Prop),oo S.bad (S.g.D*S.g.Z).toNat<n->n<=f->Db h m S F->HB h->F b5->F C->b5≠C ->
 h.get b5=some (.cells e.cells 131)->h.get C=some (.cells Me.zero.cells 47) ->
 Ok (Gd (Ag TT disp K d false) (Ag TT disp K d true) K f (.ptr m 0) (I Ao) (I seq) (.ptr b5 0) (.ptr C 0) h) fun v h'=>v=.tuple [.agg (Mi.Si e Ao seq n S).2.1.cells,I (Mi.Si e Ao seq n S).2.2]/\Db h' m (Mi.Si e Ao seq n S).1 (fun i=>F i/\¬i=C)/\Kf (fun i=>F i/\¬i=C) h h'/\HB h':=by
 intro n;induction n with
 | zero=>intro f h S F hg;omega
 | succ n ih=>
  intro f h S F hg hf M hb f5 f8 a0 g5 g8;obtain⟨f,rfl⟩:∃k,f=k+1:=⟨f-1,by omega⟩;have el:=En.Bc w;have sub:∀i,(F i/\¬i=C)->F i:=fun i hi=>hi.1
  have fin:∀(me:Me) (o:Int) (L:Ab) (S5:Mi),Db L m S5 F->Kf F h L->HB L->(S5,me,o)=Mi.Si e Ao seq (n+1) S ->
   Ok (f_ 6 (.ptr C 0) (.agg me.cells) L fun h=>Jk TT [.c (.ptr C 0) 47,.v (I o)] h) fun v h'=>v=.tuple [.agg (Mi.Si e Ao seq (n+1) S).2.1.cells,I (Mi.Si e Ao seq (n+1) S).2.2]/\Db h' m (Mi.Si e Ao seq (n+1) S).1 (fun i=>F i/\¬i=C)/\Kf (fun i=>F i/\¬i=C) h h'/\HB h':=by
   intro me o L S5 M5 k5 J he;have al:=k5.at hb g8 f8;have l8:=J _ _ al;refine Ok.st me.cells al rfl rfl (Bn rfl) ?_;rw[Ej (Ae _ _ _) kQ.1 kQ.2 rfl,<-he];have c8:Av (fun i=>i=C) L (L.put C (.cells me.cells 47)):=(Av.refl (S:=fun i=>i=C) L).Ar (.inl rfl) l8 _;exact .ret ⟨rfl,(M5.iI c8 fun i hi _=>hi▸f8).less sub,(k5.less sub).trans (c8.mono fun i hi y=>y.2 hi),J.put l8 _⟩
  unfold Mi.Si at fin⊢;simp only[Gd,dr];refine(Bh8 A hK M hb (by omega)).Am ?_;rintro _ h1 ⟨rfl,M1,k1,ao⟩;simp only[I,Ac];by_cases hr:S.ready.2=0
  ·rw[aG (show ¬¬S.ready.2=0 from fun y=>y hr)]at fin⊢
   have op:=Bca M.wf hr;have au:=(CQ S);simp only[hr,aB,aA,Aa,Xv];have a3:=k1.at hb g5 f5;rw[Cy a3 rfl,Aj el]
   try simp only[Aa]
   refine(Bj4 A hK (by omega) M1 ao w Ao seq).Am ?_;rintro _ h2 ⟨rfl,M2,k2,E⟩;have O:Kf F h h2:=k1.trans k2;have U:=Bst S.ready.1 e Ao seq;generalize hB:S.ready.1.both e Ao seq=B at M2 fin U⊢;obtain⟨T,z,o⟩:=B;simp only at M2 fin U⊢;have ca:z≠z->False:=fun y=>y rfl
   simp only[Aa,I,Ac];by_cases h0:o=0
   ·rw[aI h0]at fin⊢
    simp only[h0,aC,Aa,As];obtain⟨a4,D,p,bl,ql,np,q,c,G,a⟩:=M2.s;have lm:=E _ _ a.H2.H2;have a5:=O.at hb g5 f5;rw[Hb lm,a.H2.oa]
    try simp only[Aa,As]
    rw[Hb lm,a.H2.ob]
    try simp only[Aa,As]
    rw[Hb lm,a.H2.ou]
    try simp only[Aa,As]
    rw[Hb lm,a.H2.table]
    try simp only[Aa,As]
    rw[show ∀k:EV->R,Nq 32 1 (.ptr b5 6) none none none k=k (.slice b5 6 32 32 false)from fun k=>rfl]
    try simp only[Aa,As]
    have bs:Bs h2.lift (.slice b5 6 32 32 false) b5 6 e.bytes:=by
     refine⟨32,false,_,e.cells,by rw[w.len],by rw[w.len];omega,by rw[Bx];exact a5,rfl,by rw[el,w.len];exact aE _,?_⟩;unfold En.cells;rw[w.len];show(Bj e.bytes).take 32=_;rw[bS (by rw[Bg,w.len];omega)]
    refine Ok.bE (vZ (K:=K) hK bs (C8 E) w.u8 (by rw[w.len];omega)) (fun _ _ p=>p.2) ?_;rintro _ cc Y ⟨rfl,_⟩ _ x3;have W:=x3.hb E;have cf:=vO w.u8;simp only[Nk,Aa];rw[show Dr .i64 (Int.ofNat (Fl e.bytes))=(Fl e.bytes:Int)from Cl (by show -9223372036854775808<=((Fl e.bytes:Nat):Int);omega) (by show((Fl e.bytes:Nat):Int)<=_;omega)];rw[Ax (l:=(⟨1,T.a,T.b,T.u,seq,Fl e.bytes⟩:Me).cells) rfl]
    try simp only[Aa,As]
    rw[G1];refine Ok.st (⟨1,T.a,T.b,T.u,seq,Fl e.bytes⟩:Me).cells (Ad _ _) rfl rfl (Bn rfl) ?_;obtain⟨h4,e_,x4,a7,n4⟩:=nP Y (.cells [EV.int .i64 0,.int .i64 0,.int .i64 0,.int .i64 0,.int .i64 0,.int .i64 0] 47) (.cells (⟨1,T.a,T.b,T.u,seq,Fl e.bytes⟩:Me).cells 47);rw[e_];have ab:=x4.hb W;have aw:Ext h2 h4:=x3.trans x4;have M4:=M2.ext E aw;refine XK M4 ab ?_;intro L M5 k5 J _ n5 e5;have a8:Bk F h2 h4 Y.next:=.inr ⟨x3.next,by omega⟩
    rw[Cy (by rw[e5 _ a8];exact a7) rfl,Aj (n:=6) rfl]
    try simp only[Aa]
    refine fin _ _ L T.kR (M5.less fun i (hi:F i)=>Or.inl hi) (O.trans (aw.ow k5)) J rfl
   ·rw[aG h0]at fin⊢
    simp only[h0,aA,Aa,Ac];by_cases ad:o=34
    ·rw[aI ad]at fin⊢
     simp only[ad,aC,Aa];rw[Ax (l:=Me.zero.cells) rfl];exact fin _ _ h2 T M2 O E rfl
    ·rw[aG ad]at fin⊢
     simp only[ad,aA,Aa,X4];obtain⟨a4,D,p,bl,ql,np,q,c,G,a⟩:=M2.s;rw[a.H2.ob];simp only[I,Ac];have hz:0<=Bp T.g z/\¬T.bad z.toNat=1:=by
      obtain⟨e1,e2,e3,e4,_,_,e5⟩:=U;rw[e1,e2];rcases e5 with e5|e5
      ·rw[e5];exact op.1
      ·rw[e5];exact op.2
     have go:∀(Y:Ab),Db Y m (Mi.Om (T,z,o)) F->Kf F h Y->HB Y ->
      Ok (Pm (Ag TT disp K d false) (Ag TT disp K d true) K (Gd (Ag TT disp K d false) (Ag TT disp K d true) K f) (.ptr m 0) (I Ao) (I seq) (.ptr b5 0) (.ptr C 0) (I z) Y) fun v h'=>
       v=.tuple [.agg (if((Mi.Om (T,z,o)).Ci z).2=34 then(((Mi.Om (T,z,o)).Ci z).1,Me.zero,(34:Int))else Mi.Si e Ao seq n ((Mi.Om (T,z,o)).Ci z).1).2.1.cells,I (if((Mi.Om (T,z,o)).Ci z).2=34 then(((Mi.Om (T,z,o)).Ci z).1,Me.zero,(34:Int))else Mi.Si e Ao seq n ((Mi.Om (T,z,o)).Ci z).1).2.2] /\
        Db h' m (if((Mi.Om (T,z,o)).Ci z).2=34 then(((Mi.Om (T,z,o)).Ci z).1,Me.zero,(34:Int))else Mi.Si e Ao seq n ((Mi.Om (T,z,o)).Ci z).1).1 (fun i=>F i/\¬i=C)/\Kf (fun i=>F i/\¬i=C) h h'/\HB h':=by
      intro Y M3 k3 W;obtain⟨u1,u2,u3,u4⟩:=Bp0 (T,z,o);simp only at u1 u2 u3 u4;have ag:0<=Bp (Mi.Om (T,z,o)).g z/\¬(Mi.Om (T,z,o)).bad z.toNat=1:=by rw[u1,u2];exact hz
      have less:=Azs M3.wf ag.1 ag.2;have qg:=A75 (Mi.Om (T,z,o)) z;simp only[Pm,dr];refine(XI A hK M3 W (by omega) (Yf M3.wf.sm ag.1)).Am ?_;rintro _ h4 ⟨rfl,M4,k4,ab⟩;have ae:Kf F h h4:=k3.trans k4;simp only[I,Ac];by_cases hq:((Mi.Om (T,z,o)).Ci z).2=34
      ·rw[aI hq]at fin⊢
       simp only[hq,aC,Aa];rw[Ax (l:=Me.zero.cells) rfl];exact fin _ _ h4 _ M4 ae ab rfl
      ·rw[aG hq]
       simp only[hq,aA,Aa];have bj:=ae.at hb g5 f5;have bn:=ae.at hb g8 f8;refine(ih f h4 _ F ?_ (by omega) M4 ab f5 f8 a0 bj bn).mono ?_
       ·rw[qg]
        have e1:(Mi.Om (T,z,o)).g=S.g:=by rw[u1,U.1,au.1]
        have e2:(Mi.Om (T,z,o)).bad=S.bad:=by rw[u2,U.2.1,au.2]
        rw[e1,e2]at less;rw[e1];omega
       ·rintro v L ⟨ev,M5,k5,J⟩
        exact⟨ev,M5,(ae.less sub).trans k5,J⟩
     by_cases X:z=T.b
     ·simp only[X,aC,Aa]
      refine XK M2 E ?_;intro Y M3 k3 W _ _ _;have:=go Y (by unfold Mi.Om;rw[aI X];exact M3) (O.trans k3) W;rw[X]at this;exact this
     ·simp only[X,aA,Aa]
      exact go h2 (by unfold Mi.Om;rw[aG X];exact M2) O E
  ·rw[aI hr]at fin⊢
   simp only[hr,aR,aC,Aa];rw[Ax (l:=Me.zero.cells) rfl];exact fin _ _ h1 _ M1 k1 ao rfl
theorem TQ(A:Bv disp)(hK:10000<K)(hd:20<=d)(M:Db h m S F)(hb:HB h)(w:e.Wf)(Ao seq:Int):
 Ok (Ag TT disp K d false 115 [.ptr m 0,.agg e.cells,I Ao,I seq] h) fun v h'=>v=.tuple [.agg (S.place e Ao seq).2.1.cells,I (S.place e Ao seq).2.2]/\Db h' m (S.place e Ao seq).1 F/\Kf F h h'/\HB h':=by
 obtain⟨dd,rfl⟩:∃k,d=k+1:=⟨d-1,by omega⟩;rw[Ak2 A (by omega)];have el:=En.Bc w;simp only[MC,Aa];rw[show(h.new (.cells e.cells 131)).next=h.next+1 from rfl];have U:Ext h ((h.new (.cells e.cells 131)).new (.cells Me.zero.cells 47)):=(Av.new _ _).Da _;have O:((h.new (.cells e.cells 131)).new (.cells Me.zero.cells 47)).get h.next=some (.cells e.cells 131):=by
  rw[Ay _ (aO _)];exact Ad _ _
 have L:((h.new (.cells e.cells 131)).new (.cells Me.zero.cells 47)).get (h.next+1)=some (.cells Me.zero.cells 47):=Ad _ _;have n1:((h.new (.cells e.cells 131)).new (.cells Me.zero.cells 47)).next=h.next+2:=rfl
 rw[show(D3.cells [EV.int .i64 0,.int .i64 0,.int .i64 0,.int .i64 0,.int .i64 0,.int .i64 0] 47)=.cells Me.zero.cells 47 from rfl];generalize (h.new (.cells e.cells 131)).new (.cells Me.zero.cells 47)=h1 at U O L n1⊢;have o:=U.hb hb;rw[Cy O rfl,Aj el]
 try simp only[Aa]
 refine(z_ (K:=K) w o hK 0 0 Ao seq).Am ?_;rintro _ h2 ⟨rfl,W⟩;have X:=W.hb o;have fw:=z' w 0 0 Ao seq;unfold Mi.place;generalize Ex e 0 0 Ao seq=fe at fw⊢;obtain⟨f,er⟩:=fe;have fl:=Fr.Bc fw;have zl:=Fr.Bc Fr.Gz;simp only[Aa,AG];refine Ok.st f.cells (Ad _ _) rfl (by show Ga f.cells=49;rw[Bh,fl]) (Bn (by rw[zl];exact fl.symm)) ?_;obtain⟨u,e_,Y,_,_⟩:=nP h2 (.cells Fr.zero.cells 167) (.cells f.cells 167);rw[e_];have C:=Y.hb X;have E:Ext h u:=(U.trans W).trans Y;have J:Ext h1 u:=W.trans Y;have M3:=M.ext hb E;have O:=J.at o O;have L:=J.at o L;have ln:h.next+2<=u.next:=by have:=J.next;omega
 simp only[I,Ac];by_cases he:er=0
 ·subst he
  simp only[aB,aA,Aa,ak,Xc];have gl:=Bm9 S.bad (S.g.D*S.g.Z).toNat;have:(S.g.D*S.g.Z).toNat<=512:=by
   have h1:=M.wf.sm.d1;have h2:=M.wf.sm.z1;have u:=M.wf.sm.d0;have h4:=M.wf.sm.z0;obtain⟨m0,m1⟩:=Q6 (a:=S.g.D) (b:=S.g.Z) (A:=8) (B:=64);omega
  refine(Bdc A hK (by omega) w Ao seq 1000 K u S (Bk F h u) (by omega) (by omega) M3 C (.inr ⟨by omega,by omega⟩) (.inr ⟨by omega,by omega⟩) (by omega) O L).mono ?_;rintro v h4 ⟨ev,M4,k4,aa⟩;refine⟨ev,M4.less fun i (T:F i)=>⟨.inl T,fun y=>by have:=M.lt i T;omega⟩,?_,aa⟩;exact Av.then (S:=fun i=>¬F i) (Ext.to E) k4 fun i y hl z=>y ⟨.inl z,fun y=>by have:=M.lt i z;omega⟩
 ·simp only[he,aR,aC,Aa,bJ]
  rw[Ax (l:=Me.zero.cells) rfl];refine Ok.st Me.zero.cells L rfl rfl (Bn rfl) ?_;rw[Ej (Ae _ _ _) kQ.1 kQ.2 rfl];have l8:=C _ _ L;have x4:Ext h (u.put (h.next+1) (.cells Me.zero.cells 47)):=E.Ar (.inr (by omega)) l8 _;exact .ret ⟨rfl,(M.ext hb x4).less fun i (T:F i)=>Or.inl T,x4.kf,C.put l8 _⟩
def Btj:EV->Nat
 | .int _ n=>n.toNat
 | _=>0
def l_(x:List EV):List Nat:=x.map Btj
theorem AH(l:List Nat):l_ (Bj l)=l:=by
 unfold l_ Bj;rw[List.map_map];exact(cm (fun a _=>rfl)).trans (List.map_id l)
theorem U8.Bui {x:List EV}(u:U8 x):Bj (l_ x)=x/\∀b∈l_ x,b<256:=by
 obtain⟨l,h,rfl⟩:=u;rw[AH];exact⟨rfl,h⟩
theorem Bdx(x:List EV):(l_ x).length=x.length:=bh ..
theorem wc{l:List EV}{v w:EV}(o:h.get i=some (.cells l t))(hs:TT.size t=some n)(u:TT.agg t=some true)(B:l.length=n):Jk TT [.c (.ptr i 0) t,.v v,.v w] h=some (.tuple [.agg l,v,w],h):=by
 have C:I6 h i 0 n=some l:=by
  unfold I6;rw[o];simp only;rw[<-nC];exact Aj B
 unfold Jk;simp only[kg,hs,C,u]
noncomputable def mQ(s:List Nat)(x:Me)(Al Bf:Int):Bool × List Nat:=
 if(iv s Al x.off).2=0/\¬(iv s Al x.off).1.kind=2/\(iv s Al x.off).1.seq=x.seq/\(U2 (iv s Al x.off).1).2=0/\(U2 (iv s Al x.off).1).1.Bf=Bf/\((Fl (U2 (iv s Al x.off).1).1.bytes:Nat):Int)=x.sum
 then(true,(U2 (iv s Al x.off).1).1.bytes)else(false,Du)
noncomputable def Mi.Ds(S:Mi)(x:Me)(Al Bf:Int):Mi × List Nat × Bool × Int:=
 if(S.dr.read Al x.off).2.2=0 then({ S with dr:=(S.dr.read Al x.off).1 },(mQ (l_ (S.dr.read Al x.off).2.1) x Al Bf).2,(mQ (l_ (S.dr.read Al x.off).2.1) x Al Bf).1,0)else
 if(S.dr.read Al x.off).2.2=34 then({ S with dr:=(S.dr.read Al x.off).1 },Du,false,34)else
 if(S.dr.read Al x.off).2.2=32 then((({ S with dr:=(S.dr.read Al x.off).1 }:Mi).Ci Al).1,Du,false,if(({ S with dr:=(S.dr.read Al x.off).1 }:Mi).Ci Al).2=34 then 34 else 0)else
 ({ S with dr:=(S.dr.read Al x.off).1 },Du,false,0)
theorem Bmi(A:Bv disp)(hK:10000<K)(hd:19<=d)(M:Db h m S F)(hb:HB h){z:Int}(C:Rng z):
 Ok (Ag TT disp K d false 107 [.ptr m 0,I z] h) fun v h'=>v=I (if(S.Ci z).2=34 then 34 else 0)/\Db h' m (S.Ci z).1 F/\Kf F h h'/\HB h':=by
 obtain⟨e,rfl⟩:∃k,d=k+1:=⟨d-1,by omega⟩;rw[Amh A (by omega)];simp only[HR,dr];refine(XI A hK M hb (by omega) C).Am ?_;rintro _ E ⟨rfl,u,B,o⟩;simp only[I,Ac,Zk];by_cases h0:(S.Ci z).2=34
 ·simp only[h0,aC,Aa,bJ]
  exact .ret ⟨rfl,u,B,o⟩
 ·simp only[h0,aA,Aa,ak]
  exact .ret ⟨rfl,u,B,o⟩
theorem jv:TT.size 49=some 32/\TT.agg 49=some true:=⟨by kernel_rfl,by kernel_rfl⟩
theorem m':Du.length=32:=rfl
theorem XL(w:f.Wf):(U2 f).1.Wf:=by
 unfold U2;split
 ·exact En.Gz
 ·split
  ·exact En.Gz
  ·exact WY w.len w.u8
theorem Bk5 {s:List Nat}(o:s.length=64)(hu:∀b∈s,b<256)(x:Me)(Al Bf:Int)(w:(iv s Al x.off).1.Wf):(mQ s x Al Bf).2.length=32/\∀b∈(mQ s x Al Bf).2,b<256:=by
 unfold mQ;split
 ·exact⟨(XL w).len,(XL w).u8⟩
 ·exact⟨rfl,fun b hb=>by rw[bO hb];decide⟩
theorem XM(A:Bv disp)(hK:10000<K)(hd:20<=d)(M:Db h m S F)(hb:HB h)(x:Me){Al:Int}(hz:Rng Al)(Bf:Int):
 Ok (Ag TT disp K d false 66 [.ptr m 0,.agg x.cells,I Al,I Bf] h) fun v h'=>v=.tuple [.agg (Bj (S.Ds x Al Bf).2.1),.bool (S.Ds x Al Bf).2.2.1,I (S.Ds x Al Bf).2.2.2]/\(S.Ds x Al Bf).2.1.length=32/\(∀b∈(S.Ds x Al Bf).2.1,b<256)/\Db h' m (S.Ds x Al Bf).1 F/\Kf F h h'/\HB h':=by
 obtain⟨dd,rfl⟩:∃k,d=k+1:=⟨d-1,by omega⟩;rw[Al9 A (by omega)];simp only[MW,Aa];rw[show(h.new (.cells x.cells 47)).next=h.next+1 from rfl,Jh];have x1:Ext h ((h.new (.cells x.cells 47)).new (.cells (Bj Du) 49)):=(Av.new _ _).Da _;have E:((h.new (.cells x.cells 47)).new (.cells (Bj Du) 49)).get h.next=some (.cells x.cells 47):=by
  rw[Ay _ (aO _)];exact Ad _ _
 have C:((h.new (.cells x.cells 47)).new (.cells (Bj Du) 49)).get (h.next+1)=some (.cells (Bj Du) 49):=Ad _ _;have n1:((h.new (.cells x.cells 47)).new (.cells (Bj Du) 49)).next=h.next+2:=rfl
 generalize (h.new (.cells x.cells 47)).new (.cells (Bj Du) 49)=h1 at x1 E C n1⊢;have U:=x1.hb hb;have M1:=M.ext hb x1;obtain⟨_,D,p,bl,ql,np,q,c,G,a⟩:=M1.s;have lm:=U _ _ a.H2.H2;have l5:=U _ _ E;have F5:Bk F h h1 h.next:=.inr ⟨aE _,by omega⟩
 have F8:Bk F h h1 (h.next+1):=.inr ⟨by omega,by omega⟩;rw[Hb lm,a.H2.D4]
 try simp only[Aa,As]
 rw[Hb l5,Ai E rfl (v:=I x.off) rfl]
 try simp only[Aa,As]
 refine Ok.bC (S:=G) (VA (K:=K) A (d:=dd) (by omega) (fun k hk=>rn A (by omega) S.dr k hk) a.drv.lift (C8 U) Al x.off) (fun _ _ p=>p.2.2.2.1) ?_;rintro _ h2 h3 s' ⟨rfl,hlen,d2,_,bo⟩ sm c3 bp;have ae:=sm.hb bo;have bt:U8 (S.dr.read Al x.off).2.1:=by
  obtain⟨V,M',qc,qh,cs,hs,ms,F',a'⟩:=d2.Ou;have w:=a'.dev.wf;have wz:∀i,i<(S.dr.begin Al).dv.n->((S.dr.begin Al).dv.zs i).Wf (S.dr.begin Al).dv.size:=by
   have e1:(S.dr.read Al x.off).1.dv=(S.dr.begin Al).dv.begin Al:=rfl;rw[e1]at w;unfold Dv.begin at w;split at w
   ·exact w.zs
   ·exact w.zs
  show U8 (Dv.read _ Al x.off).1;unfold Dv.read;split
  ·exact U8.zs
  ·rename_i bu
   obtain⟨j,rfl,hj⟩:=Dv.tD (show(S.dr.begin Al).dv.Fi Al=0 by
    rcases Decidable.em ((S.dr.begin Al).dv.Fi Al=0)with y|y
    ·exact y
    ·exact absurd y bu)
   unfold jB;split
   ·exact U8.zs
   ·split
    ·rename_i hc
     have:x.off.toNat<((S.dr.begin (j:Int)).dv.zs j).l.length:=by
      have:=hc.2;rw[bF]at this;omega
     rw[bF,aD this];exact(wz j hj).u8 _ (bH _)
    ·exact U8.zs
 obtain⟨M3,k3⟩:=M1.drv U a (d2.same sm) c3;have E:=k3.at U E F5;have C:=k3.at U C F8;obtain⟨hs,ab⟩:=bt.Bui;have O:(l_ (S.dr.read Al x.off).2.1).length=64:=by rw[Bdx,hlen]
 unfold Mi.Ds;rw[<-hs];generalize hR:S.dr.read Al x.off=R at M3 hs ab O⊢;obtain⟨dr,sec,er⟩:=R;simp only at M3 hs ab O⊢;rw[AH];generalize l_ sec=s at hs ab O⊢;simp only[Aa,As];rw[G1 (by rcases bp with rfl|⟨w,rfl,_⟩<;>kernel_rfl)];have ul:(Bj s).length=64:=by rw[Bg,O]
 refine Ok.st (Bj s) (Ad _ _) rfl (by show Ga (Bj s)=64;rw[Bh,ul]) (Bn (by rw[bV];exact ul.symm)) ?_;obtain⟨h4,e_,x4,ay,_⟩:=nP h3 (.cells (List.replicate 64 (EV.int .u8 0)) 30) (.cells (Bj s) 30);rw[e_];have o:=x4.hb ae;have E:=x4.at ae E;have C:=x4.at ae C;have M4:=(M3.ext ae x4).less fun i (W:Bk F h h1 i)=>Or.inl W
 have af:Kf F h h4:=(x1.ow k3).trans x4.kf;have ln:h.next+2<=h4.next:=by have:=x4.next;have:=k3.next;omega
 have sub:∀i,F i->Bk F h h1 i:=fun i W=>.inl W
 have fin:∀(l:List Nat) (ok:Bool) (er:Int) (u:Ab) (S5:Mi),l.length=32->(∀b∈l,b<256)->Db u m S5 (Bk F h h1)->Kf F h u->HB u->u.get (h.next+1)=some (.cells (Bj Du) 49) ->
  Ok (f_ 32 (.ptr (h.next+1) 0) (.agg (Bj l)) u fun h'=>Jk TT [.c (.ptr (h.next+1) 0) 49,.v (.bool ok),.v (I er)] h') fun v h'=>v=.tuple [.agg (Bj l),.bool ok,I er]/\l.length=32/\(∀b∈l,b<256)/\Db h' m S5 F/\Kf F h h'/\HB h':=by
  intro l ok er u S5 hl bx M5 k5 L ag;have ul:(Bj l).length=32:=by rw[Bg,hl]
  have l8:=L _ _ ag;refine Ok.st (Bj l) ag rfl (by show Ga (Bj l)=32;rw[Bh,ul]) (Bn (by show(Bj Du).length=(Bj l).length;rw[ul,Bg,m'])) ?_;rw[wc (Ae _ _ _) jv.1 jv.2 ul];have nF:¬F (h.next+1):=fun y=>by have:=M.lt _ y;omega
  have c8:Av (fun i=>i=h.next+1) u (u.put (h.next+1) (.cells (Bj l) 49)):=(Av.refl (S:=fun i=>i=h.next+1) u).Ar (.inl rfl) l8 _;exact .ret ⟨rfl,hl,bx,(M5.iI c8 fun i W _=>W▸F8).less sub,k5.trans (c8.mono fun i W y=>nF (W▸y)),L.put l8 _⟩
 have no:∀(er:Int) (u:Ab) (S5:Mi),Db u m S5 (Bk F h h1)->Kf F h u->HB u->u.get (h.next+1)=some (.cells (Bj Du) 49) ->
  Ok (Bo (Mt 1) (List.replicate 32 (EV.int .u8 0)) [] fun v=>f_ 32 (.ptr (h.next+1) 0) v u fun h'=>Jk TT [.c (.ptr (h.next+1) 0) 49,.v (.bool false),.v (I er)] h') fun v h'=>v=.tuple [.agg (Bj Du),.bool false,I er]/\Du.length=32/\(∀b∈Du,b<256)/\Db h' m S5 F/\Kf F h h'/\HB h':=fun er u S5 M5 k5 L ag=>by
  rw[Jh,Ax (l:=Bj Du) rfl];exact fin Du false er u S5 rfl (fun b hb=>by rw[bO hb];decide) M5 k5 L ag
 simp only[I,Ac];by_cases h0:er=0
 ·rw[aI h0]
  simp only[h0,aC,Aa,Zh];have bz:=o _ _ ay;have b5:=o _ _ E;obtain⟨_,D,p,bl,ql,np,q,c,G,a⟩:=M4.s;have b6:=o _ _ a.H2.H2
  try simp only[As]
  rw[Hb b6,a.H2.table]
  try simp only[Aa,As]
  rw[Hb bz,Cy ay rfl,Aj ul]
  try simp only[Aa,As]
  rw[Hb b5,Ai E rfl (v:=I x.off) rfl]
  try simp only[Aa,As]
  refine Ok.bE (UX (K:=K) O ab (C8 o) hK Al x.off) (fun _ _ p=>p.2.2) ?_;rintro _ dB u ⟨rfl,fw,_⟩ _ x5;have gw:=Bk5 O ab x Al Bf fw;have J:mQ s x Al Bf=if(iv s Al x.off).2=0/\¬(iv s Al x.off).1.kind=2/\(iv s Al x.off).1.seq=x.seq/\(U2 (iv s Al x.off).1).2=0/\(U2 (iv s Al x.off).1).1.Bf=Bf/\((Fl (U2 (iv s Al x.off).1).1.bytes:Nat):Int)=x.sum
   then(true,(U2 (iv s Al x.off).1).1.bytes)else(false,Du):=rfl
  generalize mQ s x Al Bf=gd at J gw⊢;generalize iv s Al x.off=Ou at fw J⊢;obtain⟨f,b8⟩:=Ou;simp only at fw J⊢;have L:=x5.hb o;have fl:=Fr.Bc fw;have zl:=Fr.Bc Fr.Gz;simp only[Aa,AG,As];rw[G1];refine Ok.st f.cells (Ad _ _) rfl (by show Ga f.cells=49;rw[Bh,fl]) (Bn (by rw[zl];exact fl.symm)) ?_;obtain⟨h6,e_,x6,ah,_⟩:=nP u (.cells Fr.zero.cells 167) (.cells f.cells 167);rw[e_];have X:=x6.hb L;have ai:Ext h4 h6:=x5.trans x6;have E:=ai.at o E;have C:=ai.at o C;have M6:=(M4.ext o ai).less fun i (W:Bk F h h1 i)=>Or.inl W
  have a2:Kf F h h6:=af.trans ai.kf;have stop:=no 0 h6 _ M6 a2 X C;have l0:f.cells[0]? = some (I f.kind):=rfl;have l4:f.cells[4]? = some (I f.seq):=rfl;simp only[I,Ac]at stop⊢;by_cases c1:b8=0
  ·by_cases c2:f.kind=2
   ·rw[aG (by rintro⟨_,y,_⟩;exact y c2)]at J;subst J
    simp only[c1,aB,aA,Aa,Cw ah rfl,l0,I,Ac,c2,aC,Iw,Iu];exact stop
   ·by_cases c3:f.seq=x.seq
    ·simp only[c1,aB,aA,Aa,Cw ah rfl,l0,I,Ac,c2,Iw,l4,Iu]
     rw[Ai E rfl (v:=I x.seq) rfl];simp only[I,Ac,c3,aB,aA,Aa,Za];rw[Cy ah rfl,Aj fl]
     try simp only[Aa]
     refine(A24 (K:=K) fw X hK).Am ?_;rintro _ h7 ⟨rfl,T,x7⟩;generalize U2 f=re at T J⊢;obtain⟨e,ca⟩:=re;simp only at T J⊢;have cc:=x7.hb X;have el:=En.Bc T;have cf:=En.Bc En.Gz;simp only[Aa];rw[En.H6];refine Ok.st e.cells (Ad _ _) rfl (by show Ga e.cells=38;rw[Bh,el]) (Bn (by rw[cf];exact el.symm)) ?_;obtain⟨h8,e_,x8,Y,_⟩:=nP h7 (.cells En.zero.cells 131) (.cells e.cells 131);rw[e_];have B:=x8.hb cc;have aj:Ext h6 h8:=x7.trans x8;have E:=aj.at X E;have C:=aj.at X C;have M8:=(M6.ext X aj).less fun i (W:Bk F h h1 i)=>Or.inl W
     have a4:Kf F h h8:=a2.trans aj.kf;have stop:=no 0 h8 _ M8 a4 B C;have ct:=B _ _ Y;have cv:=B _ _ E;simp only[I,Ac]at stop⊢;by_cases c4:ca=0
     ·simp only[c4,aB,aA,Aa,As]
      rw[Hb ct,Ai Y rfl (v:=I e.Bf) rfl];simp only[I,Ac];by_cases c5:e.Bf=Bf
      ·simp only[c5,aB,aA,Iv,Aa,As]
       obtain⟨_,D,p,bl,ql,np,q,c,G,a⟩:=M8.s;have cw:=B _ _ a.H2.H2;rw[Hb cw,a.H2.table]
       try simp only[Aa,As]
       rw[show ∀k:EV->R,Nq 32 1 (.ptr h7.next 6) none none none k=k (.slice h7.next 6 32 32 false)from fun k=>rfl]
       try simp only[Aa,As]
       have bs:Bs h8.lift (.slice h7.next 6 32 32 false) h7.next 6 e.bytes:=by
        refine⟨32,false,_,e.cells,by rw[T.len],by rw[T.len];omega,by rw[Bx];exact Y,rfl,by rw[el,T.len];exact aE _,?_⟩;unfold En.cells;rw[T.len];show(Bj e.bytes).take 32=_;rw[bS (by rw[Bg,T.len];omega)]
       refine Ok.bE (vZ (K:=K) hK bs (C8 B) T.u8 (by rw[T.len];omega)) (fun _ _ p=>p.2) ?_;rintro _ ea h9 ⟨rfl,_⟩ _ x9;have a5:=x9.hb B;have E:=x9.at B E;have C:=x9.at B C;have Y:=x9.at B Y;have M9:=(M8.ext B x9).less fun i (W:Bk F h h1 i)=>Or.inl W
       have a6:Kf F h h9:=a4.trans x9.kf;have stop:=no 0 h9 _ M9 a6 a5 C;have O:=vO T.u8;simp only[Nk,Aa,As];rw[show Dr .i64 (Int.ofNat (Fl e.bytes))=(Fl e.bytes:Int)from Cl (by show -9223372036854775808<=((Fl e.bytes:Nat):Int);omega) (by show((Fl e.bytes:Nat):Int)<=_;omega)];rw[Hb cv,Ai E rfl (v:=I x.sum) rfl];simp only[I,Ac]at stop⊢;by_cases c6:((Fl e.bytes:Nat):Int)=x.sum
       ·rw[aI ⟨c1,c2,c3,c4,c5,c6⟩]at J;subst J
        simp only[c6,aB,aA,Gp,Aa,Zg];rw[Cy Y rfl,show Og e.cells (0+6) 32=some (Bj e.bytes)from by
         rw[Fx (by rw[el];omega)];show some ((Bj e.bytes).take 32)=_;rw[bS (by rw[Bg,T.len];omega)]]
        try simp only[Aa]
        exact fin e.bytes true 0 h9 _ T.len T.u8 M9 a6 a5 C
       ·rw[aG (by rintro⟨_,_,_,_,_,y⟩;exact c6 y)]at J;subst J
        simp only[c6,aR,aC,Gp,Aa];exact stop
      ·rw[aG (by rintro⟨_,_,_,_,y,_⟩;exact c5 y)]at J;subst J
       simp only[c5,aR,aC,Iv,Aa,Gp];exact stop
     ·rw[aG (by rintro⟨_,_,_,y,_⟩;exact c4 y)]at J;subst J
      simp only[c4,aR,aC,Iv,Aa,Gp];exact stop
    ·rw[aG (by rintro⟨_,_,y,_⟩;exact c3 y)]at J;subst J
     simp only[c1,aB,aA,Aa,Cw ah rfl,l0,I,Ac,c2,Iw,l4,Iu];rw[Ai E rfl (v:=I x.seq) rfl];simp only[I,Ac,c3,aR,aC,Aa];exact stop
  ·rw[aG (by rintro⟨y,_⟩;exact c1 y)]at J;subst J
   simp only[c1,aR,aC,Aa,Iw,Iu];exact stop
 ·rw[aG h0]
  simp only[h0,aA,Aa,Ac];by_cases al:er=34
  ·rw[aI al]
   simp only[al,aC,Aa];exact no 34 h4 _ M4 af o C
  ·rw[aG al]
   simp only[al,aA,Aa,Ac];by_cases ao:er=32
   ·rw[aI ao]
    simp only[ao,aC,Aa];rw[Ax (l:=Bj Du) rfl];refine(Bmi A hK (by omega) M4 o hz).Am ?_;rintro _ u ⟨rfl,M5,k5,L⟩;have C:=k5.at o C F8;have cy:Kf F h4 u:=k5.less sub;exact fin Du false _ u _ rfl (fun b hb=>by rw[bO hb];decide) M5 (af.trans cy) L C
   ·rw[aG ao]
    simp only[ao,aA,Aa];exact no 0 h4 _ M4 af o C
section
def nZ(g:Gm)(x:Me):Bool:=decide (x.state=1)&&meB g x
theorem XN(M:Db h m S F)(hb:HB h){x:Me}(E:Rng x.Al)(hm:Rng x.Bf):
 Ok (Kt K (.ptr m 0) (.agg x.cells) h) fun v h'=>v=.bool (nZ S.g x)/\Ext h h':=by
 simp only[Kt,Aa];obtain⟨T,J,u,B,_⟩:=nW h (.cells x.cells 47);rw[J];have o:=u.hb hb;obtain⟨_,D,p,bl,ql,np,q,c,G,a⟩:=M.s.ext hb u;have C:=o _ _ B;have lm:=o _ _ a.H2.H2;rw[Hb C,Ai B rfl (v:=I x.state) rfl];simp only[I,Ac];unfold nZ;by_cases h0:x.state=1
 ·simp only[h0,aC,Aa,As,bI]
  rw[Hb C,Cy B rfl,Aj (n:=6) rfl]
  try simp only[Aa,As]
  rw[Hb lm,a.H2.pF]
  try simp only[Aa,As]
  refine Ok.bE (AQ (K:=K) (C8 o) h0 E hm) (fun _ _ p=>p.2) ?_;rintro _ L h2 ⟨rfl,_⟩ _ O;simp only[K4,Aa];exact .ret ⟨rfl,u.trans O⟩
 ·simp only[h0,aA,Aa,As,av,K4]
  exact .ret ⟨rfl,u⟩
section
variable (A:Bv disp)(hK:10000<K)(hd:20<=d)(M:Db h m S F)(hb:HB h)(x:Me)
include A hK hd M hb
theorem XO {ih:EV->EV->EV->EV->EV->Ab->R}{u:EV}{z:Int}(hz:Rng z)(Y:∀k:EV->R,kj 2 2 true 2 u (.int .i64 (i:Int)) k=k (.agg [I z,I mt]))(f3:F b3)(f4:F b4)
 (g3:h.get b3=some (.cells x.cells 47)) (W:h.get b4=some (.cells (Bj Du) 49))
 (B:(S.Ds x z mt).2.2.1=true\/¬(S.Ds x z mt).2.2.2=0->∀h',Db h' m (S.Ds x z mt).1 F->Kf (fun i=>F i/\¬i=b4) h h'->HB h'->((S.Ds x z mt).2.1.length=32/\∀b∈(S.Ds x z mt).2.1,b<256)->Q (.tuple [.agg (Bj (S.Ds x z mt).2.1),I (S.Ds x z mt).2.2.2]) h')
 (E:¬((S.Ds x z mt).2.2.1=true\/¬(S.Ds x z mt).2.2.2=0)->∀h',Db h' m (S.Ds x z mt).1 F->Kf F h h'->HB h'->Ok (Mq (Ag TT disp K d false) (Ag TT disp K d true) K ih (.ptr m 0) (.ptr b3 0) (.ptr b4 0) u (.int .i64 (i:Int)) h') Q) :
 Ok (Q8 (Ag TT disp K d false) (Ag TT disp K d true) K ih (.ptr m 0) (.ptr b3 0) (.ptr b4 0) u (.int .i64 (i:Int)) h) Q:=by
 simp only[Q8,Y,Aa];refine Ok.st [I z,I mt] (Ad _ _) rfl rfl rfl ?_;obtain⟨h1,e_,X,g7,_⟩:=nP h (.cells [EV.int .i64 0,.int .i64 0] 52) (.cells [I z,I mt] 52);rw[e_];have ab:=X.hb hb;have M1:=M.ext hb X;have sub:∀i,F i->Bk F h h1 i:=fun i o=>.inl o
 rw[Cy (X.at hb g3) rfl,Aj (n:=6) rfl]
 try simp only[Aa]
 rw[show ∀k:EV->R,jW 2 1 (.ptr h.next 0) (.int .i64 0) k=k (.ptr h.next 0)from fun k=>rfl,Ai g7 rfl (v:=I z) rfl];rw[show ∀k:EV->R,jW 2 1 (.ptr h.next 0) (.int .i64 1) k=k (.ptr h.next 1)from fun k=>rfl,Ai g7 rfl (v:=I mt) rfl];refine(XM A hK hd M1 ab x hz mt).Am ?_;rintro _ h2 ⟨rfl,bl,bu,M2,k2,U⟩;have ae:Kf F h h2:=X.ow k2;generalize S.Ds x z mt=C at B E bl bu M2⊢;obtain⟨T,l,ok,er⟩:=C;simp only at B E bl bu M2⊢;have ul:(Bj l).length=32:=by rw[Bg,bl]
 simp only[Aa,Jh];refine Ok.st (Bj l) (Ad _ _) rfl (by show Ga (Bj l)=32;rw[Bh,ul]) (Bn (by show(Bj Du).length=(Bj l).length;rw[ul,Bg,m'])) ?_;obtain⟨J,e_,x3,g8,_⟩:=nP h2 (.cells (Bj Du) 49) (.cells (Bj l) 49);rw[e_];have L:=x3.hb U;have M3:=(M2.ext U x3).less fun i (o:F i)=>Or.inl (sub i o)
 have O:Kf F h J:=ae.trans x3.kf;have W:=O.at hb W f4;have l4:=L _ _ W;have stop:(ok=true\/¬er=0)->Ok (Pg 32 (.ptr h2.next 0) J fun ah=>f_ 32 (.ptr b4 0) ah J fun h=>Jk TT [.c (.ptr b4 0) 49,.v (I er)] h) Q:=fun hc=>by
  rw[Cy g8 rfl,Aj ul]
  try simp only[Aa]
  refine Ok.st (Bj l) W rfl (by show Ga (Bj l)=32;rw[Bh,ul]) (Bn (by show(Bj Du).length=(Bj l).length;rw[ul,Bg,m'])) ?_;rw[Ej (Ae _ _ _) jv.1 jv.2 ul];have c8:Av (fun i=>i=b4) J (J.put b4 (.cells (Bj l) 49)):=(Av.refl (S:=fun i=>i=b4) J).Ar (.inl rfl) l4 _;exact .ret (B hc _ (M3.iI c8 fun i o _=>o▸f4) ((O.less fun i o=>o.1).trans (c8.mono fun i o y=>y.2 o)) (L.put l4 _) ⟨bl,bu⟩)
 simp only[I,Ac]at stop⊢;cases ok with
 | true=>
  simp only[Aa,Ac,Q4];exact stop (.inl rfl)
 | false=>
  simp only[Aa,Ac,Q4];by_cases h0:er=0
  ·simp only[h0,aB,aA,Aa]
   exact E (by rw[h0];simp) J M3 O L
  ·simp only[h0,aR,aC,Aa]
   exact stop (.inr h0)
end
noncomputable def Mi.read(S:Mi)(x:Me):Mi × List Nat × Int:=
 if nZ S.g x=false then(S,Du,10)else
 if(S.Ds x x.Al x.Bf).2.2.1=true\/¬(S.Ds x x.Al x.Bf).2.2.2=0 then((S.Ds x x.Al x.Bf).1,(S.Ds x x.Al x.Bf).2.1,(S.Ds x x.Al x.Bf).2.2.2)else
 if((S.Ds x x.Al x.Bf).1.Ds x x.Bf x.Al).2.2.1=true\/¬((S.Ds x x.Al x.Bf).1.Ds x x.Bf x.Al).2.2.2=0 then(((S.Ds x x.Al x.Bf).1.Ds x x.Bf x.Al).1,((S.Ds x x.Al x.Bf).1.Ds x x.Bf x.Al).2.1,((S.Ds x x.Al x.Bf).1.Ds x x.Bf x.Al).2.2.2)else
 (((S.Ds x x.Al x.Bf).1.Ds x x.Bf x.Al).1,Du,41)
theorem Bn0(A:Bv disp)(hK:10000<K)(hd:21<=d)(M:Db h m S F)(hb:HB h){x:Me}(hz:Rng x.Al)(hm:Rng x.Bf):
 Ok (Ag TT disp K d false 112 [.ptr m 0,.agg x.cells] h) fun v h'=>v=.tuple [.agg (Bj (S.read x).2.1),I (S.read x).2.2]/\((S.read x).2.1.length=32/\∀b∈(S.read x).2.1,b<256)/\Db h' m (S.read x).1 F/\Kf F h h'/\HB h':=by
 obtain⟨dd,rfl⟩:∃k,d=k+1:=⟨d-1,by omega⟩;rw[Amv A (by omega)];simp only[MB,Aa];rw[show(h.new (.cells x.cells 47)).next=h.next+1 from rfl,Jh];have x1:Ext h ((h.new (.cells x.cells 47)).new (.cells (Bj Du) 49)):=(Av.new _ _).Da _;have B:((h.new (.cells x.cells 47)).new (.cells (Bj Du) 49)).get h.next=some (.cells x.cells 47):=by
  rw[Ay _ (aO _)];exact Ad _ _
 have E:((h.new (.cells x.cells 47)).new (.cells (Bj Du) 49)).get (h.next+1)=some (.cells (Bj Du) 49):=Ad _ _;have n1:((h.new (.cells x.cells 47)).new (.cells (Bj Du) 49)).next=h.next+2:=rfl
 generalize (h.new (.cells x.cells 47)).new (.cells (Bj Du) 49)=h1 at x1 B E n1⊢;have J:=x1.hb hb;have M1:=M.ext hb x1;rw[Cy B rfl,Aj (n:=6) rfl]
 try simp only[Aa]
 refine(XN (K:=K) M1 J hz hm).Am ?_;rintro _ h2 ⟨rfl,X⟩;have u:=X.hb J;have Y:Ext h h2:=x1.trans X;have M2:=M.ext hb Y;have B:=X.at J B;have E:=X.at J E;have ln:=X.next
 have f3:Bk F h h2 h.next:=.inr ⟨aE _,by omega⟩
 have f4:Bk F h h2 (h.next+1):=.inr ⟨by omega,by omega⟩;have sub:∀i,F i->Bk F h h2 i:=fun i L=>.inl L
 have back:∀h',Kf (fun i=>Bk F h h2 i/\¬i=h.next+1) h2 h'->Kf F h h':=fun h' k=>
  Av.then (S:=fun i=>¬F i) (Ext.to Y) k fun i y hl z=>y ⟨.inl z,fun y=>by have:=M.lt i z;omega⟩
 have fin:∀(C:Ab) (T:Mi) (er:Int),Db C m T (Bk F h h2)->Kf (Bk F h h2) h2 C->HB C ->
  Ok (Bo (Mt 1) (Bj Du) [] fun v=>f_ 32 (.ptr (h.next+1) 0) v C fun h'=>Jk TT [.c (.ptr (h.next+1) 0) 49,.v (I er)] h') fun v h'=>v=.tuple [.agg (Bj Du),I er]/\(Du.length=32/\∀b∈Du,b<256)/\Db h' m T F/\Kf F h h'/\HB h':=by
  intro C T er M3 O o;have E:=O.at u E f4;have l4:=o _ _ E;rw[Ax (l:=Bj Du) rfl];refine Ok.st (Bj Du) E rfl rfl (Bn rfl) ?_;rw[Ej (Ae _ _ _) jv.1 jv.2 rfl];have c8:Av (fun i=>i=h.next+1) C (C.put (h.next+1) (.cells (Bj Du) 49)):=(Av.refl (S:=fun i=>i=h.next+1) C).Ar (.inl rfl) l4 _;exact .ret ⟨rfl,⟨rfl,fun b hb=>by rw[bO hb];decide⟩,(M3.iI c8 fun i L _=>L▸f4).less sub,back _ ((O.less fun i L=>L.1).trans (c8.mono fun i L y=>y.2 L)),o.put l4 _⟩
 unfold Mi.read;cases hl:nZ S.g x with
 | false=>
  simp only[Aa,bJ];exact fin h2 S 10 M2 (Av.refl _) u
 | true=>
  rw[aG (by simp)];simp only[Aa,Zq];rw[Ai B rfl (v:=I x.Al) rfl]
  try simp only[Aa]
  rw[Ai B rfl (v:=I x.Bf) rfl,Ax (l:=[I x.Al,I x.Bf]) rfl]
  try simp only[Aa]
  rw[Ai B rfl (v:=I x.Bf) rfl]
  try simp only[Aa]
  rw[Ai B rfl (v:=I x.Al) rfl,Ax (l:=[I x.Bf,I x.Al]) rfl,Ax (l:=[I x.Al,I x.Bf,I x.Bf,I x.Al]) rfl];obtain⟨k,rfl⟩:∃k,K=k+3:=⟨K-3,by omega⟩;rw[show Dl (Ag TT disp (k+3) dd false) (Ag TT disp (k+3) dd true) (k+3) (k+3)=Dl (Ag TT disp (k+3) dd false) (Ag TT disp (k+3) dd true) (k+3) (k+2+1)from rfl];rw[Dl];simp only[Ac,show decide ((0:Int)<2)=true from rfl,Aa];refine XO A hK (by omega) M2 u x (i:=0) hz (fun k=>rfl) f3 f4 B E ?_ ?_
  ·intro U C M3 O o bl
   rw[aI U];exact⟨rfl,bl,M3.less sub,back _ O,o⟩
  ·intro U C M3 O o
   rw[aG U];simp only[Mq,Ac];rw[show Dr .i64 (((0:Nat):Int)+1)=((1:Nat):Int)from rfl];rw[show Dl (Ag TT disp (k+3) dd false) (Ag TT disp (k+3) dd true) (k+3) (k+2)=Dl (Ag TT disp (k+3) dd false) (Ag TT disp (k+3) dd true) (k+3) (k+1+1)from rfl];rw[Dl];simp only[Ac,show decide (((1:Nat):Int)<2)=true from rfl,Aa];have ae:=O.at u B f3;have af:=O.at u E f4;refine XO A hK (by omega) M3 o x (i:=1) hm (fun k=>rfl) f3 f4 ae af ?_ ?_
   ·intro U h4 M4 k4 W bl
    rw[aI U];exact⟨rfl,bl,M4.less sub,back _ ((O.less fun i L=>L.1).trans k4),W⟩
   ·intro U h4 M4 k4 W
    rw[aG U];simp only[Mq,Ac];rw[show Dr .i64 (((1:Nat):Int)+1)=((2:Nat):Int)from rfl];rw[Dl];simp only[Ac,show decide (((2:Nat):Int)<2)=false from rfl,Aa,Zf,Jh];exact fin h4 _ 41 M4 (O.trans k4) W
section
variable (A:Bv disp)(hK:10000<K)(hd:20<=d){b7:Nat}(M:Db h m S F)(hb:HB h)(x:Me)
include A hK hd M hb
theorem XP{v30:EV}{z:Int}{l0:List Nat}{gd:Nat}(hn:n<=10)(a9:gd<=10)(X:l0.length=32)(hz:Rng z)(ao:∀k:EV->R,kj 2 2 true 2 v30 (.int .i64 (i:Int)) k=k (.agg [I z,I mt]))(f3:F b3)(f4:F b4)(f7:F b7)(bb:b4≠b7)
 (g3:h.get b3=some (.cells x.cells 47)) (g4:h.get b4=some (.cells (Bj Du) 49)) (Y:h.get b7=some (.cells (Bj l0) 49))
 (U:¬(S.Ds x z mt).2.2.2=0->∀h',Db h' m (S.Ds x z mt).1 F->Kf (fun i=>F i/\¬i=b4/\¬i=b7) h h'->HB h'->Q (.tuple [.agg (Bj Du),I 0,I (S.Ds x z mt).2.2.2]) h')
 (B:(S.Ds x z mt).2.2.2=0->∀h',Db h' m (S.Ds x z mt).1 F->Kf (fun i=>F i/\¬i=b7) h h'->HB h'->(if(S.Ds x z mt).2.2.1=true then(S.Ds x z mt).2.1 else l0).length=32 ->
  h'.get b7=some (.cells (Bj (if(S.Ds x z mt).2.2.1=true then(S.Ds x z mt).2.1 else l0)) 49) ->
  Ok (Hw (Ag TT disp K d false) (Ag TT disp K d true) K ih (.ptr m 0) (.ptr b3 0) (.ptr b4 0) (.ptr b7 0) (I ((if(S.Ds x z mt).2.2.1=true/\(S.Ds x z mt).1.E6 z=false then n+1 else n:Nat):Int)) (I ((if(S.Ds x z mt).2.2.1=true then gd+1 else gd:Nat):Int)) v30 (.int .i64 (i:Int)) h') Q) :
 Ok (P9 (Ag TT disp K d false) (Ag TT disp K d true) K ih (.ptr m 0) (.ptr b3 0) (.ptr b4 0) (.ptr b7 0) (I (n:Int)) (I (gd:Int)) v30 (.int .i64 (i:Int)) h) Q:=by
 simp only[P9,ao,Aa];refine Ok.st [I z,I mt] (Ad _ _) rfl rfl rfl ?_;obtain⟨h1,e_,x1,o,n1⟩:=nP h (.cells [EV.int .i64 0,.int .i64 0] 52) (.cells [I z,I mt] 52);rw[e_];have aa:=x1.hb hb;have M1:=M.ext hb x1;have au:Bk F h h1 h.next:=.inr ⟨aE _,by omega⟩
 have sub:∀i,F i->Bk F h h1 i:=fun i u=>.inl u
 rw[Cy (x1.at hb g3) rfl,Aj (n:=6) rfl]
 try simp only[Aa]
 rw[show ∀k:EV->R,jW 2 1 (.ptr h.next 0) (.int .i64 0) k=k (.ptr h.next 0)from fun k=>rfl,Ai o rfl (v:=I z) rfl];rw[show ∀k:EV->R,jW 2 1 (.ptr h.next 0) (.int .i64 1) k=k (.ptr h.next 1)from fun k=>rfl,Ai o rfl (v:=I mt) rfl];refine(XM A hK hd M1 aa x hz mt).Am ?_;rintro _ h2 ⟨rfl,bl,bu,M2,k2,W⟩;have aw:Kf F h h2:=x1.ow k2;have o:=k2.at aa o au;generalize S.Ds x z mt=C at U B bl bu M2⊢;obtain⟨T,l,ok,er⟩:=C;simp only at U B bl bu M2⊢;have ul:(Bj l).length=32:=by rw[Bg,bl]
 have ax:(Bj l0).length=32:=by rw[Bg,X]
 simp only[Aa,Jh];refine Ok.st (Bj l) (Ad _ _) rfl (by show Ga (Bj l)=32;rw[Bh,ul]) (Bn (by show(Bj Du).length=(Bj l).length;rw[ul,Bg,m'])) ?_;obtain⟨E,e_,x3,ay,_⟩:=nP h2 (.cells (Bj Du) 49) (.cells (Bj l) 49);rw[e_];have J:=x3.hb W;have o:=x3.at W o;have ab:=(M2.ext W x3).less fun i (u:Bk F h h1 i)=>Or.inl u
 have M3:=ab.less sub;have L:Kf F h E:=aw.trans x3.kf;have g4:=L.at hb g4 f4;have Y:=L.at hb Y f7;have l4:=J _ _ g4;have l7:=J _ _ Y;simp only[I,Ac];by_cases h0:er=0
 ·simp only[h0,aB,aA,Aa,Yv]
  have B:=B h0;cases ok with
  | false=>
   simp only[Aa];have:=B E M3 (L.less fun i u=>u.1) J (by simp[X]) (by simpa using Y);simpa [I]using this
  | true=>
   simp only[Aa,Xu];rw[Cy ay rfl,Aj ul]
   try simp only[Aa]
   refine Ok.st (Bj l) Y rfl (by show Ga (Bj l)=32;rw[Bh,ul]) (Bn (by show(Bj l0).length=(Bj l).length;rw[ul,ax])) ?_;have c7:Av (fun i=>i=b7) E (E.put b7 (.cells (Bj l) 49)):=(Av.refl (S:=fun i=>i=b7) E).Ar (.inl rfl) l7 _;have M4:=ab.iI c7 fun i u _=>by
    have u:i=b7:=u;subst u;exact sub _ f7
   have ad:(E.put b7 (.cells (Bj l) 49)).get b7=some (.cells (Bj l) 49):=Ae _ _ _;have o:(E.put b7 (.cells (Bj l) 49)).get h.next=some (.cells [I z,I mt] 52):=by
    rw[Af _ (fun y=>by have:=M.lt _ f7;omega)];exact o
   have ae:Kf (fun i=>F i/\¬i=b7) h (E.put b7 (.cells (Bj l) 49)):=(L.less fun i u=>u.1).trans (c7.mono fun i u y=>y.2 u);have O:HB (E.put b7 (.cells (Bj l) 49)):=J.put l7 _;generalize E.put b7 (.cells (Bj l) 49)=h4 at M4 ad o ae O⊢;simp only[I,Ac];rw[Cl (n:=(gd:Int)+1),Cl (n:=(n:Int)+1)];rw[show ∀k:EV->R,jW 2 1 (.ptr h.next 0) (.int .i64 0) k=k (.ptr h.next 0)from fun k=>rfl,Ai o rfl (v:=I z) rfl];refine(Jq (K:=K) M4.s O hz).Am ?_;rintro _ h5 ⟨rfl,x5⟩;have a0:=x5.hb O;have M5:=(M4.ext O x5).less fun i (u:Bk F h h1 i)=>Or.inl u
   have this:=B h5 (M5.less sub) (ae.trans x5.kf) a0 (by simpa using bl) (by simpa using x5.at O ad);cases af:T.E6 z with
   | true=>
    simp only[Aa];simpa [I,af]using this
   | false=>
    simp only[Aa,Ac];simpa [I,af]using this
 ·simp only[h0,aR,aC,Aa]
  rw[Ax (l:=Bj Du) rfl];refine Ok.st (Bj Du) g4 rfl rfl (Bn rfl) ?_;rw[wc (Ae _ _ _) jv.1 jv.2 rfl];have c8:Av (fun i=>i=b4) E (E.put b4 (.cells (Bj Du) 49)):=(Av.refl (S:=fun i=>i=b4) E).Ar (.inl rfl) l4 _;exact .ret (U h0 _ (M3.iI c8 fun i u _=>u▸f4) ((L.less fun i u=>u.1).trans (c8.mono fun i u y=>y.2.1 u)) (J.put l4 _))
end
noncomputable def Mi.rA(x:Me)(C D:Mi × List Nat × Bool × Int):Mi × List Nat × Int × Int:=
 if ¬D.2.2.2=0 then(D.1,Du,0,D.2.2.2)else
 if C.2.2.1=false/\D.2.2.1=false then(D.1,Du,0,41)else
 (D.1,if D.2.2.1=true then D.2.1 else C.2.1,(if C.2.2.1=true/\C.1.E6 x.Al=false then 1 else 0)+(if D.2.2.1=true/\D.1.E6 x.Bf=false then 1 else 0),0)
noncomputable def Mi.check(S:Mi)(x:Me):Mi × List Nat × Int × Int:=
 if nZ S.g x=false then(S,Du,0,10)else
 if ¬(S.Ds x x.Al x.Bf).2.2.2=0 then((S.Ds x x.Al x.Bf).1,Du,0,(S.Ds x x.Al x.Bf).2.2.2)else
 Mi.rA x (S.Ds x x.Al x.Bf) ((S.Ds x x.Al x.Bf).1.Ds x x.Bf x.Al)
theorem UI(A:Bv disp)(hK:10000<K)(hd:21<=d)(M:Db h m S F)(hb:HB h){x:Me}(hz:Rng x.Al)(hm:Rng x.Bf):
 Ok (Ag TT disp K d false 18 [.ptr m 0,.agg x.cells] h) fun v h'=>v=.tuple [.agg (Bj (S.check x).2.1),I (S.check x).2.2.1,I (S.check x).2.2.2]/\(S.check x).2.1.length=32/\Db h' m (S.check x).1 F/\Kf F h h'/\HB h':=by
 obtain⟨dd,rfl⟩:∃k,d=k+1:=⟨d-1,by omega⟩;rw[Akq A (by omega)];simp only[MG,Aa];rw[show(h.new (.cells x.cells 47)).next=h.next+1 from rfl,Jh];have x1:Ext h ((h.new (.cells x.cells 47)).new (.cells (Bj Du) 49)):=(Av.new _ _).Da _;have E:((h.new (.cells x.cells 47)).new (.cells (Bj Du) 49)).get h.next=some (.cells x.cells 47):=by
  rw[Ay _ (aO _)];exact Ad _ _
 have T:((h.new (.cells x.cells 47)).new (.cells (Bj Du) 49)).get (h.next+1)=some (.cells (Bj Du) 49):=Ad _ _;have n1:((h.new (.cells x.cells 47)).new (.cells (Bj Du) 49)).next=h.next+2:=rfl
 generalize (h.new (.cells x.cells 47)).new (.cells (Bj Du) 49)=h1 at x1 E T n1⊢;have U:=x1.hb hb;have M1:=M.ext hb x1;rw[Cy E rfl,Aj (n:=6) rfl]
 try simp only[Aa]
 refine(XN (K:=K) M1 U hz hm).Am ?_;rintro _ h2 ⟨rfl,x2⟩;have J:=x2.hb U;have ab:Ext h h2:=x1.trans x2;have M2:=M.ext hb ab;have E:=x2.at U E;have T:=x2.at U T;have ln:=x2.next
 have bj:Bk F h h2 (h.next+1):=.inr ⟨by omega,by omega⟩;have l4:=J _ _ T;unfold Mi.check;cases hl:nZ S.g x with
 | false=>
  simp only[Aa,bJ];rw[Ax (l:=Bj Du) rfl];refine Ok.st (Bj Du) T rfl rfl (Bn rfl) ?_;rw[wc (Ae _ _ _) jv.1 jv.2 rfl];have x3:Ext h (h2.put (h.next+1) (.cells (Bj Du) 49)):=ab.Ar (.inr (by omega)) l4 _;exact .ret ⟨rfl,rfl,(M.ext hb x3).less fun i (B:F i)=>Or.inl B,x3.kf,J.put l4 _⟩
 | true=>
  rw[aG (by simp)];simp only[Aa,Y3,Jh];obtain⟨W,e_,x3,g7,n3⟩:=nW h2 (.cells (Bj Du) 49);rw[e_];have ae:=x3.hb J;have aj:Ext h W:=ab.trans x3;have M3:=M.ext hb aj;have E:=x3.at J E;have T:=x3.at J T;have f3:Bk F h W h.next:=.inr ⟨aE _,by omega⟩
  have f4:Bk F h W (h.next+1):=.inr ⟨by omega,by omega⟩;have f7:Bk F h W h2.next:=.inr ⟨by omega,by omega⟩
  have X:h.next+1≠h2.next:=by omega
  have sub:∀i,F i->Bk F h W i:=fun i B=>.inl B
  have back:∀h',Kf (fun i=>Bk F h W i/\¬i=h.next+1/\¬i=h2.next) W h'->Kf F h h':=fun h' k=>
   Av.then (S:=fun i=>¬F i) (Ext.to aj) k fun i y hl z=>y ⟨.inl z,fun y=>by have:=M.lt i z;omega,fun y=>by have:=M.lt i z;omega⟩
  rw[Ai E rfl (v:=I x.Al) rfl]
  try simp only[Aa]
  rw[Ai E rfl (v:=I x.Bf) rfl,Ax (l:=[I x.Al,I x.Bf]) rfl]
  try simp only[Aa]
  rw[Ai E rfl (v:=I x.Bf) rfl]
  try simp only[Aa]
  rw[Ai E rfl (v:=I x.Al) rfl,Ax (l:=[I x.Bf,I x.Al]) rfl,Ax (l:=[I x.Al,I x.Bf,I x.Bf,I x.Al]) rfl];obtain⟨k,rfl⟩:∃k,K=k+3:=⟨K-3,by omega⟩;rw[show Dd (Ag TT disp (k+3) dd false) (Ag TT disp (k+3) dd true) (k+3) (k+3)=Dd (Ag TT disp (k+3) dd false) (Ag TT disp (k+3) dd true) (k+3) (k+2+1)from rfl];rw[Dd];simp only[Ac,show decide ((0:Int)<2)=true from rfl,Aa];refine XP A hK (by omega) M3 ae x (i:=0) (n:=0) (gd:=0) (l0:=Du) (by omega) (by omega) rfl hz (fun k=>rfl) f3 f4 f7 X E T g7 ?_ ?_
  ·intro hc h4 M4 k4 Y
   rw[aI hc];exact⟨rfl,rfl,M4.less sub,back _ k4,Y⟩
  ·intro hc h4 M4 k4 Y L al
   rw[aG (show ¬¬(S.Ds x x.Al x.Bf).2.2.2=0 from fun y=>y hc)];have a1:=k4.at ae E ⟨f3,by omega⟩;have ao:=k4.at ae T ⟨f4,X⟩;generalize S.Ds x x.Al x.Bf=C at M4 L al⊢;simp only[Hw,Ac];rw[show Dr .i64 (((0:Nat):Int)+1)=((1:Nat):Int)from rfl];rw[show Dd (Ag TT disp (k+3) dd false) (Ag TT disp (k+3) dd true) (k+3) (k+2)=Dd (Ag TT disp (k+3) dd false) (Ag TT disp (k+3) dd true) (k+3) (k+1+1)from rfl];rw[Dd];simp only[Ac,show decide (((1:Nat):Int)<2)=true from rfl,Aa];have a2:(if C.2.2.1=true/\C.1.E6 x.Al=false then 0+1 else 0)<=10:=by split<;>omega
   have a3:(if C.2.2.1=true then 0+1 else 0)<=10:=by split<;>omega
   refine XP A hK (by omega) M4 Y x (i:=1) a2 a3 L hm (fun k=>rfl) f3 f4 f7 X a1 ao al ?_ ?_
   ·intro hc h5 M5 k5 aa
    unfold Mi.rA;rw[aI hc];exact⟨rfl,rfl,M5.less sub,back _ ((k4.less fun i B=>⟨B.1,B.2.2⟩).trans k5),aa⟩
   ·intro hc h5 M5 k5 aa o u
    unfold Mi.rA;rw[aG (show ¬¬(C.1.Ds x x.Bf x.Al).2.2.2=0 from fun y=>y hc)];have aq:=k5.at Y ao ⟨f4,X⟩;have au:=aa _ _ aq;generalize C.1.Ds x x.Bf x.Al=D at M5 o u⊢;simp only[Hw,Ac];rw[show Dr .i64 (((1:Nat):Int)+1)=((2:Nat):Int)from rfl];rw[Dd];simp only[Ac,show decide (((2:Nat):Int)<2)=false from rfl,Aa,Ys,I];have a4:Kf (fun i=>Bk F h W i/\¬i=h.next+1/\¬i=h2.next) W h5:=(k4.less fun i B=>⟨B.1,B.2.2⟩).trans (k5.less fun i B=>⟨B.1,B.2.2⟩);have fin:∀(l:List Nat) (n er:Int),l.length=32->Ok (f_ 32 (.ptr (h.next+1) 0) (.agg (Bj l)) h5 fun h'=>Jk TT [.c (.ptr (h.next+1) 0) 49,.v (I n),.v (I er)] h') fun v h'=>v=.tuple [.agg (Bj l),I n,I er]/\l.length=32/\Db h' m D.1 F/\Kf F h h'/\HB h':=by
     intro l n er hl;have ul:(Bj l).length=32:=by rw[Bg,hl]
     refine Ok.st (Bj l) aq rfl (by show Ga (Bj l)=32;rw[Bh,ul]) (Bn (by show(Bj Du).length=(Bj l).length;rw[ul,Bg,m'])) ?_;rw[wc (Ae _ _ _) jv.1 jv.2 ul];have c8:Av (fun i=>i=h.next+1) h5 (h5.put (h.next+1) (.cells (Bj l) 49)):=(Av.refl (S:=fun i=>i=h.next+1) h5).Ar (.inl rfl) au _;exact .ret ⟨rfl,hl,(M5.iI c8 fun i B _=>B▸f4).less sub,back _ (a4.trans (c8.mono fun i B y=>y.2.1 B)),aa.put au _⟩
    cases c1:C.2.2.1 with
    | false=>
     rw[c1]at o u;cases c2:D.2.2.1 with
     | false=>
      simp only[aX,gk,ak,and_self,bJ,show((0:Nat):Int)=0 from rfl,aC,Aa,Jh];rw[Ax (l:=Bj Du) rfl];exact fin Du 0 41 rfl
     | true=>
      rw[c2]at o u;simp only[bJ]at o u;simp only[aX,gk,ak,fQ,and_false,hH,bJ,Aa,La,show decide (((0+1:Nat):Int)=0)=false from rfl];rw[Cy u rfl,Aj (by rw[Bg,o])];simp only[Aa];have:=fin D.2.1 ((if D.1.E6 x.Bf=false then 0+1 else 0:Nat):Int) 0 o;simp only[I]at this;cases O:D.1.E6 x.Bf<;>simpa [O]using this
    | true=>
     rw[c1]at L o u;simp only[bJ]at L;cases c2:D.2.2.1 with
     | false=>
      rw[c2]at o u;simp only[bJ,aX,ak]at o u;simp only[fQ,gk,ak,hH,bJ,aX,Aa,La,show decide (((0+1:Nat):Int)=0)=false from rfl];rw[Cy u rfl,Aj (by rw[Bg,o])];simp only[Aa];have:=fin C.2.1 ((if C.1.E6 x.Al=false then 0+1 else 0:Nat):Int) 0 L;simp only[I]at this;cases O:C.1.E6 x.Al<;>simpa [O]using this
     | true=>
      rw[c2]at o u;simp only[bJ]at o u;simp only[fQ,gk,ak,hH,bJ,Aa,La,show decide (((0+1+1:Nat):Int)=0)=false from rfl];rw[Cy u rfl,Aj (by rw[Bg,o])];simp only[Aa];have:=fin D.2.1 (((if C.1.E6 x.Al=false then 1 else 0)+(if D.1.E6 x.Bf=false then 1 else 0):Nat):Int) 0 o;simp only[I]at this;cases a6:C.1.E6 x.Al<;>cases O:D.1.E6 x.Bf<;>simpa [a6,O]using this
end
noncomputable def Jo.new(n size:Nat)(op:Int):Jo:=⟨⟨n,size,op,0,false,fun _=>Zn.empty⟩,[],[]⟩
noncomputable def Mi.new(g:Gm):Mi:=⟨g,Jo.new (g.D*g.Z).toNat g.S.toNat g.O,fun _=>[],fun _=>0,-1,-1,0⟩
theorem Bou(s:Sm g)(hb:HB h){M zl p:Nat}{z q c:Nat->Nat}(d:oe h D V M zl (g.D*g.Z).toNat z (fun _=>0) g.S g.O 0 false .Aq .Aq [] (fun _=>Zn.empty))
 (nd:(h0.next<=D/\h0.next<=M)/\h0.next<=V/\h0.next<=zl/\∀d,d<(g.D*g.Z).toNat->h0.next<=z d) (W:Acb h m D p bl (g.D*g.Z).toNat g (-1) (-1) 0 (fun _=>0)) (T:Fa h p ql g.D.toNat q c g (fun _=>[]))
 (nm:(h0.next<=m/\h0.next<=bl)/\h0.next<=p/\h0.next<=ql/\∀d,d<g.D.toNat->h0.next<=q d/\h0.next<=c d) (le:h0.next<=h.next):Db h m (Mi.new g) (fun i=>i<h0.next):=by
 have:=s.d0;have:=s.d1;have:=s.z0;have:=s.z1;have:=s.s0;have:=s.s1;obtain⟨m0,m1⟩:=Q6 (a:=g.D) (b:=g.Z) (A:=8) (B:=64);have C:=d.dev;have L:∀i,i<(g.D*g.Z).toNat->∃s,h.get (z i)=some (.cells [s,I g.S,I 0,I 0,.bool false] 202):=fun i u=>by
  obtain⟨s,a,_⟩:=(C.Al i u).Al;exact⟨s,a⟩
 have hF:∀i,A21 V zl (g.D*g.Z).toNat z (fun _=>0) (fun _=>Zn.empty) i->i=V\/i=zl\/∃d,d<(g.D*g.Z).toNat/\i=z d:=fun i u=>by
  rcases u with y|y|⟨d,hd,y|y⟩
  ·exact .inl y
  ·exact .inr (.inl y)
  ·exact .inr (.inr ⟨d,hd,y⟩)
  ·exact absurd rfl y.1
 have kind:∀i o,h.get i=some o->(∀l,o≠.cells l 183)->(∀l,o≠.vec l 184 1)->(∀l,o≠.cells l 202)->¬A21 V zl (g.D*g.Z).toNat z (fun _=>0) (fun _=>Zn.empty) i:=fun i o J Y h2 h3 u=>by
  rcases hF i u with y|y|⟨d,hd,y⟩
  ·subst y;rw[C.dev]at J;cases J;exact Y _ rfl
  ·subst y;rw[C.row]at J;cases J;exact h2 _ rfl
  ·subst y
   obtain⟨s,hs⟩:=L d hd;rw[hs]at J;cases J;exact h3 _ rfl
 have U:∀i o,h.get i=some o->(∀l,o≠.cells l 183)->(∀l,o≠.vec l 184 1)->(∀l,o≠.cells l 202)->(∀l,o≠.cells l 143)->(∀l,o≠.map l)->¬(i=D\/i=M\/A21 V zl (g.D*g.Z).toNat z (fun _=>0) (fun _=>Zn.empty) i):=fun i o J Y h2 h3 h4 h5 u=>by
  rcases u with y|y|y
  ·subst y;rw[d.D4]at J;cases J;exact h4 _ rfl
  ·subst y;rw[d.marks]at J;cases J;exact h5 _ rfl
  ·exact kind i o J Y h2 h3 y
 have E:∀i,A21 V zl (g.D*g.Z).toNat z (fun _=>0) (fun _=>Zn.empty) i->i<h.next/\h0.next<=i:=fun i u=>by
  rcases hF i u with y|y|⟨d,hd,y⟩
  ·subst y;exact⟨hb _ _ C.dev,nd.2.1⟩
  ·subst y;exact⟨hb _ _ C.row,nd.2.2.1⟩
  ·subst y
   obtain⟨s,hs⟩:=L d hd;exact⟨hb _ _ hs,nd.2.2.2 d hd⟩
 have hS:g.S=((g.S.toNat:Nat):Int):=by omega
 have X:F3 h D (Jo.new (g.D*g.Z).toNat g.S.toNat g.O) (fun i=>i=D\/i=M\/A21 V zl (g.D*g.Z).toNat z (fun _=>0) (fun _=>Zn.empty) i):=by
  have zw:∀size:Nat,0<size->Zn.empty.Wf size:=fun size hs=>⟨fun x hx=>(by cases hx),by show 0<=4;omega,aE _,cZ _,fun _=>hs⟩
  have dw:Dv.Wf ⟨(g.D*g.Z).toNat,g.S.toNat,g.O,0,false,fun _=>Zn.empty⟩:=⟨by show g.S.toNat<=64;omega,by show(g.D*g.Z).toNat<=512;omega,fun i _=>zw _ (by show 0<g.S.toNat;omega)⟩;refine⟨fun i u=>?_,⟨by show 0+0<=200;omega,fun e he=>(by cases he),fun e he=>(by cases he)⟩,V,M,0,0,.Aq,.Aq,[],_,d.D4,d.marks,fun e he=>(by cases he),.nil _ _ _ _,.nil _ _ _ _,⟨dw,fun i u=>(E i u).1,zl,z,fun _=>0,?_,fun i u=>u⟩,⟨fun i u=>.inr (.inr u),.inl rfl,.inr (.inl rfl),fun y=>absurd y (bN _),fun y=>absurd y (bN _)⟩,⟨kind _ _ d.D4 (by intros;simp) (by intros;simp) (by intros;simp),kind _ _ d.marks (by intros;simp) (by intros;simp) (by intros;simp),fun y=>absurd y (bN _),fun y=>absurd y (bN _),fun y=>absurd y (bN _)⟩⟩
  ·rcases u with y|y|y
   ·subst y;exact hb _ _ d.D4
   ·subst y;exact hb _ _ d.marks
   ·exact(E i y).1
  ·show Lv h V zl (g.D*g.Z).toNat z (fun _=>0) ((g.S.toNat:Nat):Int) g.O 0 false (fun _=>Zn.empty)
   rw[<-hS];exact C
 refine⟨⟨fun i u=>u.1,D,p,bl,ql,g.D.toNat,q,c,_,W,T,⟨rfl,s,fun d _=>cZ _⟩,X,?_,?_⟩,fun i u=>aN u le,{ toWp:=⟨s,fun d _ x hx=>by cases hx⟩,op:=.inl ⟨rfl,rfl⟩ }⟩
 ·have k:=U
  exact⟨k _ _ W.H2 (by intros;simp) (by intros;simp) (by intros;simp) (by intros;simp) (by intros;simp),k _ _ W.Azm (by intros;simp) (by intros;simp) (by intros;simp) (by intros;simp) (by intros;simp),k _ _ T.Gn (by intros;simp) (by intros;simp) (by intros;simp) (by intros;simp) (by intros;simp),k _ _ T.row (by intros;simp) (by intros;simp) (by intros;simp) (by intros;simp) (by intros;simp),
   fun d hd=>⟨k _ _ (T.que d hd) (by intros;simp) (by intros;simp) (by intros;simp) (by intros;simp) (by intros;simp),k _ _ (T.chan d hd) (by intros;simp) (by intros;simp) (by intros;simp) (by intros;simp) (by intros;simp)⟩⟩
 ·refine⟨fun i u=>?_,⟨hb _ _ W.H2,by omega⟩,⟨hb _ _ W.Azm,by omega⟩,⟨hb _ _ T.Gn,by omega⟩,⟨hb _ _ T.row,by omega⟩,fun d hd=>⟨⟨hb _ _ (T.que d hd),by have:=nm.2.2.2 d hd;omega⟩,⟨hb _ _ (T.chan d hd),by have:=nm.2.2.2 d hd;omega⟩⟩⟩
  rcases u with y|y|y
  ·subst y;exact⟨hb _ _ d.D4,by omega⟩
  ·subst y;exact⟨hb _ _ d.marks,by omega⟩
  ·exact⟨(E i y).1,by have:=(E i y).2;omega⟩
theorem AJ {ps:Nat->List Int}{a:Nat}:∀n,a<n->(ps a).length<=Od ps n
 | 0,h=>absurd h (cI _)
 | n+1,h=>by
  rw[Ji];rcases cF.1 h with y|y
  ·have:=AJ (ps:=ps) n y;omega
  ·subst y;omega
theorem vI {ps:Nat->List Int}{a b:Nat}(o:a≠b):∀n,a<n->b<n->(ps a).length+(ps b).length<=Od ps n
 | 0,h,_=>absurd h (cI _)
 | n+1,u,hb=>by
  rw[Ji];rcases cF.1 u with y|y<;>rcases cF.1 hb with z|z
  ·have:=vI (ps:=ps) o n y z;omega
  ·subst z;have:=AJ (ps:=ps) b y;omega
  ·subst y;have:=AJ (ps:=ps) a z;omega
  ·omega
theorem AK {zs:Nat->Zn}{a:Nat}:∀n,(∀i,i<n->(zs i).st=1->i=a\/i=b)->Rv zs n<=(if a<n then 1 else 0)+(if b<n then 1 else 0)
 | 0,_=>by unfold Rv;simp
 | n+1,h=>by
  rw[zd];have ih:=AK n fun i u=>h i (by omega)
  by_cases o:(zs n).st=1
  ·rw[aI o]
   rcases h n (aO _) o with y|y
   ·subst y
    rw[aG (bN _)]at ih;rw[aI (aO _)];have:(if b<n then 1 else 0)<=(if b<n+1 then 1 else 0):=by split<;>split<;>omega
    omega
   ·subst y
    rw[aG (bN n)]at ih;rw[aI (aO n)];have:(if a<n then 1 else 0)<=(if a<n+1 then 1 else 0):=by split<;>split<;>omega
    omega
  ·rw[aG o]
   have t1:(if b<n then 1 else 0)<=(if b<n+1 then 1 else 0):=by split<;>split<;>omega
   have t2:(if a<n then 1 else 0)<=(if a<n+1 then 1 else 0):=by split<;>split<;>omega
   omega
noncomputable def Aqt(e:En)(z mt off Ao seq:Int):List EV:=Bj (L6 (Ex { e with Bf:=mt } z off Ao seq).1)
def EOk(e:En)(Ao seq:Int):Prop:=(Ex e 0 0 Ao seq).2=0
theorem EOk.at{seq:Int}(h:EOk e Ao seq){z off:Int}(E:0<=z)(o:z<=65535)(hm:0<=mt)(u:mt<=65535)(J:0<=off)(B:off<=65535):(Ex { e with Bf:=mt } z off Ao seq).2=0:=by
 unfold EOk Ex at h;by_cases C:iR e=true/\hY ⟨e.kind,0,0,Ao,seq,(D8 e).1⟩=true/\e.first<=seq/\seq-e.count<e.first
 ·obtain⟨c1,c2,c3,c4⟩:=C
  unfold Ex;rw[aI];refine⟨?_,?_,c3,c4⟩
  ·unfold iR at c1⊢
   simp only[aS]at c1⊢;exact⟨c1.1,c1.2.1,Ez.2 ⟨hm,u⟩,c1.2.2.2⟩
  ·unfold hY at c2⊢
   simp only[aS]at c2⊢;exact⟨c2.1,Ez.2 ⟨E,o⟩,Ez.2 ⟨J,B⟩,c2.2.2.2⟩
 ·rw[aG C]at h
  exact absurd h (by decide)
theorem EOk.seq{seq:Int}(h:EOk e Ao seq):0<=seq/\seq<=281474976710655/\iR e=true:=by
 unfold EOk Ex at h;by_cases o:iR e=true/\hY ⟨e.kind,0,0,Ao,seq,(D8 e).1⟩=true/\e.first<=seq/\seq-e.count<e.first
 ·obtain⟨c1,c2,c3,c4⟩:=o
  unfold hY at c2;simp only[aS]at c2;have:=Ez.1 c2.2.2.2.2;exact⟨this.1,this.2,c1⟩
 ·rw[aG o]at h
  exact absurd h (by decide)
structure Calm(S:Mi):Prop where
 wf:S.Wf
 rt:rtB S.g=true
 ev:S.dr.ev = []
 up:S.dr.dv.down=false
 n:S.dr.dv.n=(S.g.D*S.g.Z).toNat
 size:S.dr.dv.size=S.g.S.toNat
 op:S.dr.dv.op=S.g.O
 bad:∀i,¬S.bad i=1
 nd:∀d,d<S.g.D.toNat->(S.ps d).Nodup
 fr:∀d,d<S.g.D.toNat->∀x∈S.ps d,(S.dr.dv.zs x.toNat).l = []/\(S.dr.dv.zs x.toNat).st=0
 opn:(S.a = -1/\S.b = -1)\/(0<=Bp S.g S.a/\0<=Bp S.g S.b/\¬Bp S.g S.a=Bp S.g S.b/\0<=S.u/\S.u<=S.g.S /\
  (∀d,d<S.g.D.toNat->S.a ∉ S.ps d/\S.b ∉ S.ps d)/\(∀z,z=S.a\/z=S.b->((S.dr.dv.zs z.toNat).l.length:Int)=S.u/\(S.dr.dv.zs z.toNat).st=if S.u=S.g.S then 2 else if S.u=0 then 0 else 1))
 few:∀i,i<S.dr.dv.n->(S.dr.dv.zs i).st=1->(i:Int)=S.a\/(i:Int)=S.b
theorem Calm.sm(c:Calm S):Sm S.g:=Ja c.rt
theorem Tj(c:Calm S){z:Int}(h:0<=Bp S.g z):0<=z/\z.toNat<S.dr.dv.n/\S.dr.dv.has z=true/\z<=511:=by
 have u:=c.sm.d1;have h2:=c.sm.z1;have C:=c.sm.d0;have h4:=c.sm.z0;obtain⟨E,m1⟩:=Q6 (a:=S.g.D) (b:=S.g.Z) (A:=8) (B:=64);rcases Ip c.sm z with y|⟨_,_,_,o,J⟩
 ·omega
 ·have L:=c.n
  refine⟨o,by omega,?_,by omega⟩;unfold Dv.has;exact aM ⟨o,by omega⟩
theorem Vz {S:Jo}(h:S.ev = [])(i:Int):S.begin i=S:=by
 have hd:S.due=S:=by
  unfold Jo.due;rw[h];unfold ki;rw[<-h]
 unfold Jo.begin;split
 ·exact hd
 ·rfl
theorem s_ {D:Dv}(h:D.down=false){i:Int}(o:D.has i=true):D.Fi i=0:=by
 unfold Dv.Fi;rw[h,o];simp
theorem TF {D:Dv}(h:D.down=false){i:Int}(o:D.has i=true)(hs:(D.zs i.toNat).st<2)(u:¬D.op<=Rv D.zs D.n)(x:List EV):
 D.append i x=(D.tick.set i.toNat ((D.zs i.toNat).app D.size x),(((D.zs i.toNat).l.length:Nat):Int),0):=by
 unfold Dv.append;rw[s_ h o,aG (fun y=>y rfl),aG (fun y=>u y.2),aG (by omega)]
theorem XQ(ev:S.dr.ev = [])(up:S.dr.dv.down=false){Al Bf seq:Int}(o:(Ex { e with Bf:=Bf } Al S.u Ao seq).2=0)(B:S.dr.dv.has Al=true)(hs:(S.dr.dv.zs Al.toNat).st<2)(C:¬S.dr.dv.op<=Rv S.dr.dv.zs S.dr.dv.n)
 (E:((S.dr.dv.zs Al.toNat).l.length:Int)=S.u) :
 S.put e Al Bf Ao seq=({ S with dr:={ S.dr with dv:=S.dr.dv.tick.set Al.toNat ((S.dr.dv.zs Al.toNat).app S.dr.dv.size (Aqt e Al Bf S.u Ao seq)) } },0):=by
 unfold Mi.put Jo.append;rw[aG (fun y=>y o),Vz ev];have J:=TF up B hs C (Bj (L6 (Ex { e with Bf:=Bf } Al S.u Ao seq).1));simp only[J,E,aB,and_false,ak];rfl
noncomputable def Mi.Ti(S:Mi)(e:En)(Ao seq:Int):Mi:=
 { S with dr:={ S.dr with dv:=((S.dr.dv.tick.set S.a.toNat ((S.dr.dv.zs S.a.toNat).app S.dr.dv.size (Aqt e S.a S.b S.u Ao seq))).tick.set S.b.toNat ((S.dr.dv.zs S.b.toNat).app S.dr.dv.size (Aqt e S.b S.a S.u Ao seq))) },u:=S.u+1 }
def Roomy(S:Mi):Prop:=¬S.a = -1/\S.u<S.g.S
theorem Calm.ne(c:Calm S)(r:Roomy S):0<=Bp S.g S.a/\0<=Bp S.g S.b/\¬Bp S.g S.a=Bp S.g S.b/\0<=S.u/\S.a.toNat≠S.b.toNat /\
 (∀d,d<S.g.D.toNat->S.a ∉ S.ps d/\S.b ∉ S.ps d)/\(∀z,z=S.a\/z=S.b->((S.dr.dv.zs z.toNat).l.length:Int)=S.u/\(S.dr.dv.zs z.toNat).st=if S.u=0 then 0 else 1):=by
 rcases c.opn with y|⟨o,B,C,E,T,J,L⟩
 ·exact absurd y.1 r.1
 ·have U:=Tj c o
  have h2:=Tj c B;refine⟨o,B,C,E,fun y=>C ?_,J,fun z O=>?_⟩
  ·have:S.a=S.b:=by omega
   rw[this]
  ·have:=L z O
   have hu:=r.2;rw[aG (by omega)]at this;exact this
theorem Bg8(c:Calm S)(r:Roomy S){seq:Int}(he:EOk e Ao seq):
 S.both e Ao seq=({ S.Ti e Ao seq with u:=S.u },S.b,0):=by
 obtain⟨J,L,n3,n4,O,n6,C⟩:=c.ne r;obtain⟨E,a2,T,a4⟩:=Tj c J;obtain⟨b1,b2,b3,b4⟩:=Tj c L;have hs:=c.sm;have:=hs.s1;have:=hs.o0;have hr:=r.2;have U:=c.op;obtain⟨W,X⟩:=C _ (.inl rfl);obtain⟨lb,sb⟩:=C _ (.inr rfl);have f1:=he.at (z:=S.a) (mt:=S.b) (off:=S.u) E (by omega) b1 (by omega) n4 (by omega);have f2:=he.at (z:=S.b) (mt:=S.a) (off:=S.u) b1 (by omega) E (by omega) n4 (by omega);have o1:¬S.dr.dv.op<=Rv S.dr.dv.zs S.dr.dv.n:=by
  have:=AK (zs:=S.dr.dv.zs) (a:=S.a.toNat) (b:=S.b.toNat) S.dr.dv.n fun i B h=>by
   rcases c.few i B h with y|y<;>omega
  have Y:(if S.a.toNat<S.dr.dv.n then 1 else 0)<=1:=by split<;>omega
  have h2:(if S.b.toNat<S.dr.dv.n then 1 else 0)<=1:=by split<;>omega
  omega
 have p1:=XQ c.ev c.up f1 T (by rw[X];split<;>omega) o1 W;unfold Mi.both;rw[p1,aG (fun y=>y rfl)];have o:(Ik S.dr.dv.zs S.a.toNat ((S.dr.dv.zs S.a.toNat).app S.dr.dv.size (Aqt e S.a S.b S.u Ao seq)) S.b.toNat)=S.dr.dv.zs S.b.toNat:=by
  unfold Ik;rw[aG (cY O)]
 have o2:¬S.dr.dv.op<=Rv (Ik S.dr.dv.zs S.a.toNat ((S.dr.dv.zs S.a.toNat).app S.dr.dv.size (Aqt e S.a S.b S.u Ao seq))) S.dr.dv.n:=by
  have:=AK (zs:=Ik S.dr.dv.zs S.a.toNat ((S.dr.dv.zs S.a.toNat).app S.dr.dv.size (Aqt e S.a S.b S.u Ao seq))) (a:=S.a.toNat) (b:=S.b.toNat) S.dr.dv.n fun i B h=>by
   unfold Ik at h;split at h
   ·rename_i y;exact .inl y
   ·rcases c.few i B h with y|y<;>omega
  have Y:(if S.a.toNat<S.dr.dv.n then 1 else 0)<=1:=by split<;>omega
  have h2:(if S.b.toNat<S.dr.dv.n then 1 else 0)<=1:=by split<;>omega
  omega
 have p2:=XQ (S:={ S with dr:={ S.dr with dv:=S.dr.dv.tick.set S.a.toNat ((S.dr.dv.zs S.a.toNat).app S.dr.dv.size (Aqt e S.a S.b S.u Ao seq)) } }) (Al:=S.b) (Bf:=S.a) c.ev c.up f2 b3
  (by show(Ik S.dr.dv.zs S.a.toNat _ S.b.toNat).st<2;rw[o,sb];split<;>omega) o2 (by show((Ik S.dr.dv.zs S.a.toNat _ S.b.toNat).l.length:Int)=S.u;rw[o];exact lb)
 rw[p2];have e1:(({ S with dr:={ S.dr with dv:=S.dr.dv.tick.set S.a.toNat ((S.dr.dv.zs S.a.toNat).app S.dr.dv.size (Aqt e S.a S.b S.u Ao seq)) } }:Mi).dr.dv.zs S.b.toNat)=S.dr.dv.zs S.b.toNat:=o;rw[e1];rfl
noncomputable def Mi.Rt(S:Mi):Mi:={ S with dr:={ S.dr with dv:={ S.dr.dv.tick with zs:=fun i=>(S.dr.dv.zs i).flush } } }
theorem tc(ev:S.dr.ev = [])(up:S.dr.dv.down=false):S.dr.flush=(S.Rt.dr,0):=by
 have hd:S.dr.due=S.dr:=by
  unfold Jo.due;rw[ev];unfold ki;rw[<-ev]
 unfold Jo.flush;rw[hd];unfold Dv.flush;rw[up];rfl
noncomputable def Mi.lQ(S:Mi):Option Mi:=
 open Classical in if Roomy S then some S else match jL S.ps S.g.D.toNat with
  | none=>none
  | some (x,y,c_)=>some { S.Rt with ps:=c_,a:=x,b:=y,u:=0 }
theorem Lt(s:Sm g){x y:Int}(o:0<=Bp g x)(u:0<=Bp g y)(h:x.toNat=y.toNat):x=y:=by
 have:=Iq s o;have:=Iq s u;omega
theorem TC {T:Mi}(c:Calm S)(h:S.lQ=some T):Calm T/\Roomy T/\T.g=S.g/\T.bad=S.bad/\T.dr.ev=S.dr.ev/\T.dr.Qc=S.dr.Qc:=by
 unfold Mi.lQ at h;split at h
 ·rename_i r
  cases h;exact⟨c,r,rfl,rfl,rfl,rfl⟩
 ·rename_i W
  cases hp:jL S.ps S.g.D.toNat with
  | none=>rw[hp]at h;cases h
  | some t=>
   obtain⟨x,y,c_⟩:=t;rw[hp]at h;cases h;obtain⟨i,j,X,hj,Y,ex,C,L,_,_,dx,dy⟩:=sY c.wf.ps hp;have sub:∀d,d<S.g.D.toNat->∀z,z∈c_ d->z∈S.ps d/\z≠x/\z≠y:=fun d hd z o=>by
    have nd:=c.nd d hd;have key:z∈S.ps d:=by
     by_cases B:d=i
     ·subst B;rw[ex];exact aU _ o
     ·by_cases h2:d=j
      ·subst h2;rw[C];exact aU _ o
      ·rw[<-L d B h2];exact o
    have dz:=(c.wf.ps d hd z key).1;refine⟨key,fun J=>?_,fun J=>?_⟩
    ·subst J
     have:d=i:=by omega
     subst this;rw[ex]at nd;exact(cK.1 nd).1 o
    ·subst J
     have:d=j:=by omega
     subst this;rw[C]at nd;exact(cK.1 nd).1 o
   have mx:x∈S.ps i:=by rw[ex];exact aW ..
   have my:y∈S.ps j:=by rw[C];exact aW ..
   have O:=c.fr i X x mx;have U:=c.fr j hj y my;have s0:=c.sm.s0;have full:∀z:Int,(z=S.a\/z=S.b)->¬S.a = -1->(S.dr.dv.zs z.toNat).st=2:=fun z o E=>by
    rcases c.opn with y|⟨y1,y2,y3,y4,y5,y6,y7⟩
    ·exact absurd y.1 E
    ·have:=(y7 z o).2
     have hu:S.u=S.g.S:=by
      rcases Decidable.em (S.u<S.g.S)with y|y
      ·exact absurd ⟨E,y⟩ W
      ·omega
     rw[aI hu]at this;exact this
   refine⟨⟨{ toWp:=⟨c.wf.sm,fun d hd z o=>c.wf.ps d hd z (sub d hd z o).1⟩,op:=.inr ⟨⟨by show 0<=Bp S.g x;omega,c.bad _⟩,⟨by show 0<=Bp S.g y;omega,c.bad _⟩⟩ },c.rt,c.ev,c.up,c.n,c.size,c.op,c.bad,fun d hd=>?_,fun d hd z o=>c.fr d hd z (sub d hd z o).1,.inr ⟨by show 0<=Bp S.g x;omega,by show 0<=Bp S.g y;omega,by show ¬Bp S.g x=Bp S.g y;omega,cO _,by show 0<=S.g.S;omega,fun d hd=>⟨fun o=>(sub d hd x o).2.1 rfl,fun o=>(sub d hd y o).2.2 rfl⟩,fun z o=>?_⟩,fun k hk hs=>?_⟩,⟨?_,by show 0<S.g.S;omega⟩,rfl,rfl,rfl,rfl⟩
   ·show(c_ d).Nodup
    have nd:=c.nd d hd;by_cases B:d=i
    ·subst B;rw[ex]at nd;exact(cK.1 nd).2
    ·by_cases h2:d=j
     ·subst h2;rw[C]at nd;exact(cK.1 nd).2
     ·rw[L d B h2];exact nd
   ·show(((S.dr.dv.zs z.toNat).flush.l.length:Nat):Int)=0/\((S.dr.dv.zs z.toNat).flush).st=if(0:Int)=S.g.S then 2 else if(0:Int)=0 then 0 else 1
    rw[aG (by omega),aI rfl];have o:z=x\/z=y:=o;rcases o with o|o
    ·subst o;exact⟨by show(((S.dr.dv.zs z.toNat).l.length:Nat):Int)=0;rw[O.1];rfl,O.2⟩
    ·subst o;exact⟨by show(((S.dr.dv.zs z.toNat).l.length:Nat):Int)=0;rw[U.1];rfl,U.2⟩
   ·exfalso
    have hs:(S.dr.dv.zs k).st=1:=hs;have ho:=c.few k hk hs;have E:¬S.a = -1:=fun y=>by
     rcases c.opn with z|z
     ·omega
     ·rw[y]at z
      have:=Iq c.sm z.1;omega
    have:=full k ho E;rw[show((k:Nat):Int).toNat=k from rfl]at this;omega
   ·have:=Iq c.sm (z:=x)
    show ¬x = -1;omega
theorem Calm.Ti(c:Calm S)(r:Roomy S)(e:En)(Ao seq:Int):Calm (S.Ti e Ao seq):=by
 obtain⟨J,L,n3,n4,U,O,W⟩:=c.ne r;have X:=c.size;have s0:=c.sm.s0;have hr:=r.2;have Y:((S.Ti e Ao seq).dr.dv.zs S.a.toNat)=(S.dr.dv.zs S.a.toNat).app S.dr.dv.size (Aqt e S.a S.b S.u Ao seq):=by
  show Ik (Ik S.dr.dv.zs S.a.toNat _) S.b.toNat _ S.a.toNat=_;unfold Ik;rw[aG U,aI rfl]
 have zb:((S.Ti e Ao seq).dr.dv.zs S.b.toNat)=(S.dr.dv.zs S.b.toNat).app S.dr.dv.size (Aqt e S.b S.a S.u Ao seq):=by
  show Ik (Ik S.dr.dv.zs S.a.toNat _) S.b.toNat _ S.b.toNat=_;unfold Ik;rw[aI rfl]
 have T:∀i,i≠S.a.toNat->i≠S.b.toNat->((S.Ti e Ao seq).dr.dv.zs i)=S.dr.dv.zs i:=fun i C h2=>by
  show Ik (Ik S.dr.dv.zs S.a.toNat _) S.b.toNat _ i=_;unfold Ik;rw[aG h2,aG C]
 have E:∀z x,z=S.a\/z=S.b->(((S.dr.dv.zs z.toNat).app S.dr.dv.size x).l.length:Int)=S.u+1/\((S.dr.dv.zs z.toNat).app S.dr.dv.size x).st=if S.u+1=S.g.S then 2 else if S.u+1=0 then 0 else 1:=fun z x o=>by
  obtain⟨l,s⟩:=W z o;refine⟨by simp only[Zn.app,aF,List.length_singleton];omega,?_⟩;simp only[Zn.app];by_cases h:S.u+1=S.g.S
  ·rw[aI h,aI (by omega)]
  ·rw[aG h,aG (by omega),aG (by omega)]
 refine⟨{ toWp:=⟨c.wf.sm,c.wf.ps⟩,op:=c.wf.op },c.rt,c.ev,c.up,c.n,c.size,c.op,c.bad,c.nd,fun d hd x B=>?_,.inr ⟨J,L,n3,by show 0<=S.u+1;omega,by show S.u+1<=S.g.S;omega,O,fun z o=>?_⟩,fun i hi hs=>?_⟩
 ·have B:x∈S.ps d:=B
  have dx:=(c.wf.ps d hd x B).1;have C:x≠S.a:=fun y=>(O d hd).1 (y▸B)
  have h2:x≠S.b:=fun y=>(O d hd).2 (y▸B)
  rw[T _ (fun y=>C (Lt c.sm (by omega) J y)) (fun y=>h2 (Lt c.sm (by omega) L y))];exact c.fr d hd x B
 ·have o:z=S.a\/z=S.b:=o
  show((((S.Ti e Ao seq).dr.dv.zs z.toNat).l.length:Nat):Int)=S.u+1/\((S.Ti e Ao seq).dr.dv.zs z.toNat).st=if S.u+1=S.g.S then 2 else if S.u+1=0 then 0 else 1
  rcases o with o|o
  ·subst o;rw[Y];exact E _ _ (.inl rfl)
  ·subst o;rw[zb];exact E _ _ (.inr rfl)
 ·show(i:Int)=S.a\/(i:Int)=S.b
  have ga:=Iq c.sm J;have gb:=Iq c.sm L;by_cases C:i=S.a.toNat
  ·exact .inl (by omega)
  ·by_cases h2:i=S.b.toNat
   ·exact .inr (by omega)
   ·rw[T i C h2]at hs
    exact c.few i hi hs
theorem Bct(c:Calm S):S.ready=match S.lQ with|some T=>(T,0)|none=>(S.Rt,40):=by
 have o:=tc c.ev c.up;unfold Mi.ready Mi.lQ;by_cases r:Roomy S
 ·rw[aI r]
  simp only[r,bJ];exact aI r
 ·simp only[r,ak]
  rw[aG (show ¬(¬S.a = -1/\S.u<S.g.S)from r),o];simp only[aB,ak];cases jL S.ps S.g.D.toNat with
  | none=>rfl
  | some t=>rfl
theorem Bb7(c:Calm S){seq:Int}(he:EOk e Ao seq):S.place e Ao seq=match S.lQ with
 | some T=>(T.Ti e Ao seq,⟨1,T.a,T.b,T.u,seq,Fl e.bytes⟩,0)
 | none=>(S.Rt,Me.zero,40):=by
 unfold Mi.place;rw[aG (fun y=>y he)];show Mi.Si e Ao seq (999+1) S=_;unfold Mi.Si;rw[Bct c];cases B:S.lQ with
 | none=>rfl
 | some T=>
  obtain⟨o,rT,_⟩:=TC c B;simp only[aB,ak];rw[Bg8 o rT he,aI rfl];have:=o.sm.s1;have hu:=rT.2;have C:=(o.ne rT).2.2.2.1;have:(({ T.Ti e Ao seq with u:=T.u }:Mi).kR)=T.Ti e Ao seq:=by
   unfold Mi.kR;simp only;rw[Cl];rfl
  rw[this];rfl
noncomputable def Mi.iJ(S:Mi)(z:Int):Mi:={ S with ps:=(We S.g S.g.D.toNat S.ps z).2 }
theorem Mi.Wf.iJ(w:S.Wf){z:Int}(o:0<=Bp S.g z->¬S.bad z.toNat=1):(S.iJ z).Wf:={ toWp:=⟨w.sm,XG w.ps _ _ o⟩,op:=w.op }
section
variable(M:Db h m S F)(hb:HB h)
include M
theorem Pe(hb:HB h):Ok (Ce K (.ptr m 0) h) fun v h'=>v=gV S.g/\Ext h h':=by
 obtain⟨_,D,p,bl,ql,np,q,c,G,a⟩:=M.s;exact A1z a.H2 hb
theorem ι:Ly K (.ptr m 0) h=some (.tuple [I S.a,I S.b,I S.u],h):=by
 obtain⟨_,D,p,bl,ql,np,q,c,G,a⟩:=M.s;exact A0m a.H2
include hb
theorem TL(A:Bv disp)(hK:10000<K):∃p,Cs K (.ptr m 0) h=some (.ptr p 0,h)/\∀{d:Nat},8<=d->∀{z:Int},Rng z->(0<=Bp S.g z->¬S.bad z.toNat=1) ->
 Ok (Ag TT disp K d false 56 [.ptr p 0,I z] h) fun v h'=>v=I (We S.g S.g.D.toNat S.ps z).1/\Db h' m (S.iJ z) F/\Kf F h h'/\HB h':=by
 obtain⟨lt,D,p,bl,ql,np,q,c,G,a⟩:=M.s;refine⟨p,Yl a.H2,fun {d} hd {z} B C=>?_⟩;have o:=a.psz.nd;subst o;refine(VZ (K:=K) A a.Gn hb a.psz (by omega) hd z B).mono ?_;rintro v h' ⟨c3,u,rfl,E,J⟩;obtain⟨L,cH⟩:=a.pO hb E J c3;obtain⟨O,T⟩:=M.made (R9.mono (H:=Out F h) ⟨fun i U=>aN U.1 cH.next,D,p,bl,ql,_,q,c,G,L⟩ (fun _=>.inl) (Bk.lt lt cH.next)) cH (M.wf.iJ C);exact⟨rfl,O,T,u⟩
end
structure A8s(S:Mi):Prop where
 calm:Calm S
 cl:S.a = -1/\S.b = -1
 zs:∀i,S.dr.dv.zs i=Zn.empty
theorem Bht(u:rtB g=true):A8s (Mi.new g):=by
 have s:=Ja u;refine⟨⟨{ toWp:=⟨s,fun d _ x o=>(by cases o)⟩,op:=.inl ⟨rfl,rfl⟩ },u,rfl,rfl,rfl,rfl,rfl,fun i y=>(by cases y),fun d _=>dP,fun d _ x o=>(by cases o),.inl ⟨rfl,rfl⟩,fun i _ y=>(by cases y)⟩,⟨rfl,rfl⟩,fun _=>rfl⟩
theorem A8s.iJ(f:A8s S)(z:Int):A8s (S.iJ z):=by
 have c:=f.calm;have nd:∀d,d<S.g.D.toNat->((S.iJ z).ps d).Nodup:=fun d hd=>by
  show((We S.g S.g.D.toNat S.ps z).2 d).Nodup;unfold We;split
  ·exact c.nd d hd
  ·split
   ·exact c.nd d hd
   ·rename_i h0 o
    split
    ·simp only[upd]
     split
     ·rename_i e
      rw[List.nodup_append];refine⟨by rw[<-e];exact c.nd d hd,by simp,fun a u b hb y=>?_⟩;rw[aP.1 hb]at y;subst y;exact o (Jf.2 ⟨d,hd,by rw[e];exact u⟩)
     ·exact c.nd d hd
    ·exact c.nd d hd
 refine⟨⟨c.wf.iJ fun _=>c.bad _,c.rt,c.ev,c.up,c.n,c.size,c.op,c.bad,nd,fun d hd x B=>?_,.inl f.cl,c.few⟩,f.cl,f.zs⟩;show(S.dr.dv.zs x.toNat).l = []/\(S.dr.dv.zs x.toNat).st=0;rw[f.zs];exact⟨rfl,rfl⟩
theorem Bgz(w:e.Wf){Al off seq:Int}(B:(Ex { e with Bf:=mt } Al off Ao seq).2=0){x:Me}(C:x.off=off):
 mQ (L6 (Ex { e with Bf:=mt } Al off Ao seq).1) x Al mt=if ¬e.kind=2/\seq=x.seq/\((Fl e.bytes:Nat):Int)=x.sum then(true,e.bytes)else(false,Du):=by
 have w':({ e with Bf:=mt }:En).Wf:=⟨w.len,w.u8⟩;obtain⟨E,h2,J,h4⟩:=WZ w' B;have o:=z' w' Al off Ao seq;rw[E]at o⊢;have u:=UY o h2;subst C;unfold mQ;simp only at u;rw[u];simp only[h4,hH]
theorem TR(ev:S.dr.ev = [])(up:S.dr.dv.down=false)(w:e.Wf){Al off seq:Int}(B:(Ex { e with Bf:=mt } Al off Ao seq).2=0){x:Me}(u:x.off=off)
 (C:S.dr.dv.has Al=true) (hs:¬(S.dr.dv.zs Al.toNat).st=4) (h0:0<=off) (o:(S.dr.dv.zs Al.toNat).l[off.toNat]? = some (Aqt e Al mt off Ao seq)) :
 S.Ds x Al mt=({ S with dr:={ S.dr with dv:=S.dr.dv.tick } },(if ¬e.kind=2/\seq=x.seq/\((Fl e.bytes:Nat):Int)=x.sum then(true,e.bytes)else(false,Du)).2,(if ¬e.kind=2/\seq=x.seq/\((Fl e.bytes:Nat):Int)=x.sum then(true,e.bytes)else(false,Du)).1,0):=by
 have hlen:off.toNat<(S.dr.dv.zs Al.toNat).l.length:=by
  rcases cb off.toNat (S.dr.dv.zs Al.toNat).l.length with y|y
  ·exact y
  ·rw[cC y]at o;cases o
 have E:S.dr.read Al off=({ S.dr with dv:=S.dr.dv.tick },Aqt e Al mt off Ao seq,0):=by
  unfold Jo.read;rw[Vz ev];unfold Dv.begin Dv.read;rw[s_ up C,aI rfl,aG (fun y=>y rfl)];unfold jB;rw[aG hs,aI (by omega),o];rfl
 unfold Mi.Ds;rw[u,E];simp only[bJ];have J:=Bgz w B u;rw[show l_ (Aqt e Al mt off Ao seq)=L6 (Ex { e with Bf:=mt } Al off Ao seq).1 from AH _,J]
theorem TN(o:rtB g=true){z off:Int}(B:0<=Bp g z)(h0:0<=off)(C:off<g.S):Sr g z off=true:=by
 unfold Sr;rcases Ip (Ja o) z with y|⟨_,_,_,u,E⟩
 ·omega
 ·rw[o,Ez.2 ⟨u,by omega⟩,Ez.2 ⟨h0,by omega⟩];rfl
end Go.Ev
