import Derived.Test.YtllikommdogjcaaGreatXa
set_option linter.all false
namespace Go.Ev
noncomputable section
open Go.Proofs
set_option maxRecDepth 100000
variable {k:EV->R}{D K V b d i j m n t b3 b4 bl np ql off:Nat}{P:Int->Prop}{out:List Nat}{h h' h0:Ab}{v Ao mt kind:Int}{op:Bool}{y:List EV}{kk:Ab->R}{Q:EV->Ab->Prop}{g:Gm}{F G H F':Nat->Prop}{ps:Nat->List Int}{Z:Zn}{ms:List (EV × EV)}{ev:List Evt}{ih:EV->EV->EV->EV->EV->EV->EV->EV->Ab->R}{disp:Nat->Option FT}
abbrev Nk(k:IntKind)(a:Nat):EV:=.int k (Int.ofNat a)
theorem wrap_u8(a:Nat):Dl .u8 (Int.ofNat a)=Int.ofNat (a%256):=by
 rw[Nw];rfl
theorem wrap_u32(a:Nat):Dl .u32 (Int.ofNat a)=Int.ofNat (a%4294967296):=by
 rw[Nw];rfl
theorem wq {c:IntKind}{a:Nat}:Sz .u8 (.int c (Int.ofNat a)) k=k (Nk .u8 (a%256)):=by
 rw[FU,wrap_u8]
theorem rB{a:Nat}:iQ (bin TT .shr t) (.int .i64 (Int.ofNat a)) (.int .u64 8) k=k (Nk .i64 (a/256)):=by
 show k (.int .i64 (.ofNat (Nat.shiftRight a 8)))=_;have:Nat.shiftRight a 8=a/256:=fJ a 8;rw[this]
theorem tP {s:Nat}(hs:s<=32){a:Nat}:iQ (bin TT .shr t) (.int .u32 (Int.ofNat a)) (.int .u64 (Int.ofNat s)) k=k (Nk .u32 (a/2^s)):=by
 show k (.int .u32 (.ofNat (Nat.shiftRight a (Bc (Nat.ble s 32) s 32))))=_;rw[aR hs,Al];have:Nat.shiftRight a s=a/2^s:=fJ a s;rw[this]
theorem WS{a:Nat}(o:a<4294967296)(hb:b<4294967296):iQ (bin TT .xor t) (.int .u32 (Int.ofNat a)) (.int .u32 (Int.ofNat b)) k=k (Nk .u32 (a ^^^ b)):=by
 show k (.int .u32 (Dl .u32 (.ofNat (Nat.xor a b))))=_;rw[wrap_u32];have:Nat.xor a b<2^32:=dN (n:=32) o hb;rw[fD (by exact this)];rfl
theorem WT{a:Nat}(o:a<256)(hb:b<256):iQ (bin TT .xor t) (.int .u8 (Int.ofNat a)) (.int .u8 (Int.ofNat b)) k=k (Nk .u8 (a ^^^ b)):=by
 show k (.int .u8 (Dl .u8 (.ofNat (Nat.xor a b))))=_;rw[wrap_u8];have:Nat.xor a b<2^8:=dN (n:=8) o hb;rw[fD (by exact this)];rfl
def wd:Nat->Nat->Nat
 | 0,_=>1
 | f+1,a=>if a/256=0 then 1 else wd f (a/256)+1
theorem WU:∀(f a w:Nat),a<256^(f+1)->1<=w->(wd f a<=w↔a<256^w)
 | 0,a,w,h,hw=>by
  refine⟨fun _=>aM h (gE c_ a_),fun _=>hw⟩
 | f+1,a,w,h,hw=>by
  unfold wd;by_cases h0:a/256=0
  ·rw[aI h0]
   refine⟨fun _=>?_,fun _=>hw⟩;have:a<256:=a_
   exact aM this (by have:=gE (n:=256) c_ hw;simpa using this)
  ·rw[aG h0]
   have ih:=WU f (a/256) (w-1) (by rw[fF]at h;exact Nat.div_lt_of_lt_mul (by rw[Nat.mul_comm];exact h));by_cases o:w=1
   ·subst o
    refine⟨fun y=>?_,fun y=>?_⟩
    ·have:1<=wd f (a/256):=by cases f<;>unfold wd<;>(try split)<;>omega
     omega
    ·exfalso;apply h0;simp at y;omega
   ·have ih:=ih a_
    obtain⟨v,rfl⟩:∃v,w=v+1:=⟨w-1,a_⟩;rw[gQ]at ih;rw[fF];refine⟨fun y=>?_,fun y=>?_⟩
    ·have:=ih.1 a_
     have:=Nat.div_lt_iff_lt_mul (k:=256) (x:=a) (y:=256^v) c_;omega
    ·have:=ih.2 (Nat.div_lt_of_lt_mul (by rw[Nat.mul_comm];exact y))
     omega
theorem Bcx:∀(f m a n:Nat) (h:Ab),f<m->a<256^(f+1)->n+f<=100->f<=10 ->
 Mm K m (Nk .i64 a) (Nk .i64 n) h=X2 K (Nk .i64 (a/256^(wd f a-1))) (Nk .i64 (n+wd f a-1)) h:=by
 intro f;induction f with
 | zero=>
  intro m a n h hm o B hf;obtain⟨m,rfl⟩:=d_ m;have:a/256=0:=by simp at o;omega
  simp only[Mm,dr];rw[rB,this];simp only[Nk,Ac];rw[show decide ((0:Int)<Int.ofNat 0)=false from rfl];simp only[Aa,wd,fU,Nat.pow_zero,Nat.div_one,gQ]
 | succ f ih=>
  intro m a n h hm o B hf;obtain⟨m,rfl⟩:=d_ m;simp only[Mm,dr];rw[rB];simp only[Nk,Ac];unfold wd;by_cases h0:a/256=0
  ·rw[aI h0,h0]
   rw[show decide ((0:Int)<Int.ofNat 0)=false from rfl];simp only[Aa,fU,Nat.pow_zero,Nat.div_one,gQ]
  ·rw[aG h0,show decide ((0:Int)<Int.ofNat (a/256))=true from aO (by show(0:Int)<((a/256:Nat):Int);omega)]
   simp only[Aa,IZ];rw[rB];simp only[Nk,Ac];rw[show Dl .i64 (Int.ofNat n+1)=Int.ofNat (n+1)from Ch (by show _<=((n:Nat):Int)+1;omega) (by show((n:Nat):Int)+1<=_;omega)];have e:=ih m (a/256) (n+1) h a_ (Nat.div_lt_of_lt_mul (by rw[Nat.mul_comm,<-fF];exact o)) a_ a_;rw[e];have hw:1<=wd f (a/256):=by cases f<;>unfold wd<;>(try split)<;>omega
   obtain⟨u,hu⟩:∃u,wd f (a/256)=u+1:=⟨wd f (a/256)-1,a_⟩;rw[hu,gQ,show u+1+1-1=u+1 from rfl,Nat.pow_succ',fO,show n+1+(u+1)-1=n+(u+1+1)-1 from a_]
def kS(a:Nat):Nat:=if 7<wd 7 a then 8 else wd 7 a
theorem BO {a:Nat}(u:a<9223372036854775808)(hK:1000<K)(h:Ab):W8 K (.int .i64 (Int.ofNat a)) h=some (Nk .i64 (kS a),h):=by
 simp only[W8,dr];unfold kS;have e:=Bcx (K:=K) 7 K a 1 h a_ (Nat.lt_trans u c_) c_ c_;have:(EV.int .i64 1)=Nk .i64 1:=rfl;rw[this,e];have hw:1<=wd 7 a:=by unfold wd;split<;>omega
 simp only[X2,Nk,Ac];rw[show decide (Int.ofNat (a/256^(wd 7 a-1))<0)=false from aL (by show ¬(((a/256^(wd 7 a-1):Nat):Int)<0);exact Int.not_lt.2 (Int.natCast_nonneg _))];rw[show 1+wd 7 a-1=wd 7 a from a_];by_cases o:7<wd 7 a
 ·rw[show decide ((7:Int)<Int.ofNat (wd 7 a))=true from aO (by show(7:Int)<((wd 7 a:Nat):Int);omega),aI o]
  simp only[Aa,X3];rfl
 ·rw[show decide ((7:Int)<Int.ofNat (wd 7 a))=false from aL (by show ¬((7:Int)<((wd 7 a:Nat):Int));omega),aG o]
  simp only[Aa,X3,IY]
theorem Bge {a:Nat}(hK:1000<K)(h:Ab):W8 K (.int .i64 (Int.negSucc a)) h=some (I 8,h):=by
 obtain⟨m,rfl⟩:=d_ K;simp only[W8,Mm,dr];have e:∀k:EV->R,iQ (bin TT .shr 3) (.int .i64 (Int.negSucc a)) (.int .u64 8) k=k (.int .i64 ((Int.negSucc a).fdiv 256)):=fun k=>rfl
 have o:(Int.negSucc a).fdiv 256<0:=by
  rw[gA _ c_];have:Int.negSucc a<0:=Int.negSucc_lt_zero a;omega
 rw[e];simp only[Ac];rw[show decide ((0:Int)<(Int.negSucc a).fdiv 256)=false from aL a_];simp only[Aa,X2,Ac];rw[show decide (Int.negSucc a<0)=true from aO (Int.negSucc_lt_zero a)];simp only[Aa,X3,I]
theorem BN {a w:Nat}(o:a<9223372036854775808)(u:1<=w)(B:w<=7):kS a<=w↔a<256^w:=by
 have:=WU 7 a w (Nat.lt_trans o c_) u;rw[<-this];unfold kS;split<;>omega
def Pc(w a:Nat):List Nat:=(List.range w).map fun i=>a/256^i%256
theorem wS(w a:Nat):Pc (w+1) a=Pc w a++[a/256^w%256]:=by unfold Pc;rw[cr,cM];rfl
theorem De(w a:Nat):(Pc w a).length=w:=by simp[Pc]
theorem rD(a b:List Nat):Be (a++b)=Be a++Be b:=cM
theorem Bi(a:List Nat):(Be a).length=a.length:=bk _
structure mF(h:Ab)(P t:Nat)(out:List Nat)(bad:Bool):Prop where
 Ph:∃s q,h.get P=some (.cells [s,.bool bad] t)/\Ce h s q 5 1 out.length (Be out)/\(0<out.length->P<q)
theorem wU(n:Int)(h:Ab):X8 K (I n) h=some (.bool (decide (1<=n/\n<=7)),h):=by
 simp only[X8,I,Ac,Aa];by_cases o:1<=n
 ·simp only[o,aC,Aa,Ac,xO,hJ]
 ·simp only[o,aA,Aa,xO,hH]
theorem Bn6 {P w:Nat}{bad:Bool}{a:Nat}(J:a<9223372036854775808)(hw:w<=7)(L:out.length<=60000)(h0:Ab)(O:P<h0.next):∀(m i:Nat) (h:Ab),w-i<m->i<=w->HB h->Av (fun i=>P<=i) h0 h->mF h P t (out++Pc i a) bad ->
 Ok (Js K m (.ptr P 0) (Nk .i64 (a/256^i)) (I w) (I i) h) fun _ h'=>mF h' P t (out++Pc w a) bad/\Av (fun i=>P<=i) h0 h'/\HB h':=by
 intro m;induction m with
 | zero=>intro i h hm;omega
 | succ m ih=>
  intro i h hm T hb c p;obtain⟨s,q,g,r,l⟩:=p.Ph;simp only[Js,I,Ac,Aa];by_cases o:(i:Int)<w
  ·simp only[o,aC,Aa,wP,Cy g rfl]
   rw[wrap_u8];have hlen:(out++Pc i a).length=out.length+i:=by rw[aF,De]
   refine Ml (z:=[.int .u8 0]) r hb rfl rfl rfl a_ a_ ?_;intro h2 C U c2;have E:¬(0<(out++Pc i a).length/\P=q):=fun y=>by have:=l y.1;omega
   have u:=c2.at hb g E;have B:=(c2.hb hb) _ _ u;refine Ok.hM u rfl rfl (by show 0<2;decide) ?_;rw[rB];simp only[wQ,I,Ac];rw[Ch,fO,<-fF];have c3:Av (fun i=>P<=i) h (h2.put P (.cells ([s,EV.bool bad].set 0 (.slice (h.next+1) 0 ((out++Pc i a).length+1) ((out++Pc i a).length+1) true)) t)):=(c2.mono fun j hj=>by have:=l hj.1;show P<=j;omega).Ar (.inl (aE _)) B _;refine ih (i+1) _ a_ a_ ((c2.hb hb).put B _) (c.trans c3) ?_;rw[wS,<-bZ];refine⟨_,h.next+1,Ae _ _ _,?_,fun _=>by have:=c.next;omega⟩;have e1:((out++Pc i a)++[a/256^i%256]).length=(out++Pc i a).length+1:=by rw[aF];rfl
   have e2:Be ((out++Pc i a)++[a/256^i%256])=Be (out++Pc i a)++EV.cells (Nk .u8 (a/256^i%256)):=by rw[rD];rfl
   rw[e1,e2];refine C.frame fun _=>Af _ ?_
   have:=hb _ _ g;omega
  ·have:i=w:=a_
   subst this;simp only[o,aA,Aa];exact .ret ⟨p,c,hb⟩
def fits(w:Nat)(v:Int):Bool:=decide (0<=v/\v<(256^w:Nat))
theorem Mb {P w:Nat}{bad:Bool}(hK:1000<K)(p:mF h P t out bad)(hb:HB h)(E:out.length<=60000)(J:1<=w)(C:w<=7)(L : -9223372036854775808<=v/\v<=9223372036854775807:=by omega):
 Ok (Ep K (.ptr P 0) (I w) (I v) h) fun _ h'=>mF h' P t (if fits w v=true then out++Pc w v.toNat else out) (bad||!fits w v)/\Av (fun i=>P<=i) h h'/\HB h':=by
 obtain⟨s,q,g,r,l⟩:=p.Ph;have u:=hb _ _ g;simp only[Ep,dr];rw[wU,aO ⟨a_,a_⟩];simp only[Aa,Ac];have no:fits w v=false->Ok (hQ 1 (.ptr P 1) (.bool true) h fun h=>some (.tuple [],h)) fun _ h'=>mF h' P t (if fits w v=true then out++Pc w v.toNat else out) (bad||!fits w v)/\Av (fun i=>P<=i) h h'/\HB h':=by
  intro hf;refine Ok.hM g rfl rfl (by show 1<2;decide) ?_;refine .ret ⟨?_,(Av.refl (S:=fun i=>P<=i) h).Ar (.inl (aE _)) u _,hb.put u _⟩;rw[hf,aG (by simp),dI,Bool.or_true];exact⟨s,q,Ae _ _ _,r.frame fun y=>Af _ (by have:=l y;omega),l⟩
 cases v with
 | negSucc a=>
  unfold I;rw[Bge hK,Au];simp only[I,Ac];rw[show decide ((w:Int)<8)=true from aO a_];simp only[Aa,Pk];exact no (aL fun y=>absurd y.1 (by have:=Int.negSucc_lt_zero a;omega))
 | ofNat a=>
  have B:a<9223372036854775808:=by have:((a:Nat):Int)<=9223372036854775807:=L.2;omega
  unfold I;rw[BO B hK,Au];have o:=BN B J C;simp only[Nk,Ac];by_cases hw:kS a<=w
  ·have hf:fits w (Int.ofNat a)=true:=aO ⟨Int.natCast_nonneg a,by have:=o.1 hw;exact Int.ofNat_lt.2 this⟩
   rw[show decide ((w:Int)<Int.ofNat (kS a))=false from aL (by show ¬(w:Int)<((kS a:Nat):Int);omega)];simp only[Aa,Pk,wV];have:=Bn6 (K:=K) (P:=P) (t:=t) (w:=w) (bad:=bad) B C E h u K 0 h a_ (cS _) hb (Av.refl _) (by simpa [Pc]using p);rw[Nat.pow_zero,Nat.div_one]at this;rw[hf,aI rfl,fG,Bool.or_false];exact this
  ·rw[show decide ((w:Int)<Int.ofNat (kS a))=true from aO (by show(w:Int)<((kS a:Nat):Int);omega)]
   simp only[Aa,Pk];exact no (aL fun y=>hw (o.2 (Int.ofNat_lt.1 y.2)))
theorem WV {P:Nat}{bad:Bool}{new:List Nat}(p:mF h P t out bad)(hb:HB h)(O:out.length<=60000){x:EV}(C:lenOf x=some n)(h0:0<n)(T:n<=5000)(E:Pm h 1 n x=some (Be new))(u:new.length=n):
 Ok (Qs K (.ptr P 0) x h) fun _ h'=>mF h' P t (out++new) bad/\Av (fun i=>P<=i) h h'/\HB h':=by
 obtain⟨s,q,g,r,l⟩:=p.Ph;have U:=hb _ _ g;simp only[Qs,Aa,Cy g rfl];obtain⟨h2,e,J,W,c2⟩:=qp r C h0 a_ a_ E (by rw[Bi,u,bc]);rw[e,Au];have L:¬(0<out.length/\P=q):=fun y=>by have:=l y.1;omega
 have B:=c2.at hb g L;have o:=(c2.hb hb) _ _ B
 try simp only[Aa]
 refine Ok.hM B rfl rfl (by show 0<2;decide) ?_;refine .ret ⟨⟨_,h.next,Ae _ _ _,?_,fun _=>a_⟩,(c2.mono fun j hj=>by have:=l hj.1;show P<=j;omega).Ar (.inl (aE _)) o _,(c2.hb hb).put o _⟩;rw[aF,u,rD];exact J.frame fun _=>Af _
structure Bs(h:Ab)(x:EV)(b off:Nat)(l:List Nat):Prop where
 Ph:∃r op o row,x=.slice b off l.length r op/\l.length<=r/\h.get b=some o/\rowOf o=some row/\off+l.length<=row.length/\(row.drop off).take l.length=Be l
theorem Bs.frame{x:EV}{l:List Nat}(s:Bs h x b off l)(e:h'.get b=h.get b):Bs h' x b off l:=by
 obtain⟨r,op,o,row,e1,e0,e2,e3,e4,e5⟩:=s.Ph;exact⟨r,op,o,row,e1,e0,by rw[e];exact e2,e3,e4,e5⟩
theorem Bs.lt{x:EV}{l:List Nat}(s:Bs h x b off l)(hb:HB h):b<h.next:=by
 obtain⟨r,op,o,row,e1,e0,e2,e3,e4,e5⟩:=s.Ph;exact hb _ _ e2
theorem Bs.ext{x:EV}{l:List Nat}(s:Bs h x b off l)(hb:HB h)(c:Ext h h'):Bs h' x b off l:=s.frame (c.get _ (s.lt hb) id)
theorem Bs.lift{x:EV}{l:List Nat}(s:Bs h x b off l):Bs h.lift x b off l:=s.frame (Bx _ _)
theorem Bs.len{x:EV}{l:List Nat}(s:Bs h x b off l):lenOf x=some l.length:=by
 obtain⟨r,op,o,row,rfl,_⟩:=s.Ph;rfl
theorem Bs.Ip{x:EV}{l:List Nat}(s:Bs h x b off l)(k:EV->R):Ev.Ip x k=k (I l.length):=by
 obtain⟨r,op,o,row,rfl,_⟩:=s.Ph;rfl
theorem Bs.cells{x:EV}{l:List Nat}(s:Bs h x b off l):Pm h 1 l.length x=some (Be l):=by
 obtain⟨r,op,o,row,rfl,e0,e2,e3,e4,e5⟩:=s.Ph;show Bc (Nat.beq l.length 0) (some []) (Yy h b off (Nat.mul l.length 1))=_;rw[show Nat.mul l.length 1=l.length from bc _];have u:Ou row off l.length=some (Be l):=by rw[F9 e4,e5]
 cases B:l with
 | nil=>rfl
 | cons a r=>
  rw[show Nat.beq (a::r).length 0=false from rfl,Bk];unfold Yy;rw[e2,<-B];cases o<;>first|(cases e3;done)|(cases e3;exact u)
theorem Bs.ix{x:EV}{l:List Nat}(s:Bs h x b off l)(u:i<l.length):(∀k:EV->R,iF 1 x (.int .i64 (i:Int)) k=k (.ptr b (off+i)))/\(∀k:EV->R,Iy (.ptr b (off+i)) h k=k (Nk .u8 l[i])):=by
 obtain⟨r,op,o,row,rfl,e0,e2,e3,e4,e5⟩:=s.Ph;refine⟨fun k=>by rw[On u,bc],fun k=>?_⟩;rw[Cy e2 e3];have:row[off+i]? = some (Nk .u8 l[i]):=by
  have e5:=congrArg (fun z=>z[i]?) e5;simp only[fR,u,bK,dM]at e5;rw[e5];unfold Be;rw[bH,aD u];rfl
 rw[this];rfl
theorem Bs.take{x:EV}{l:List Nat}(s:Bs h x b off l)(C:n<=l.length):∃y,(∀k:EV->R,iK 1 x none (some (.int .i64 (n:Int))) none k=k y)/\Bs h y b off (l.take n):=by
 obtain⟨r,op,o,row,rfl,e0,e2,e3,e4,e5⟩:=s.Ph;have u:(l.take n).length=n:=by rw[bW,eU C]
 refine⟨EV.slice b off n r op,fun k=>?_,⟨r,op,o,row,by rw[u],by rw[u];omega,e2,e3,by rw[u];omega,?_⟩⟩
 ·have:je (EV.slice b off l.length r op) 1 none (some (.int .i64 (n:Int))) none=some (EV.slice b off n r op):=by
   have B:bound (some (.int .i64 (n:Int))) r l.length=some n:=by
    show Bc (Nat.ble n r) (some n) none=_;rw[aR a_,Al]
   unfold je;simp only[B];cases op with
   | true=>rfl
   | false=>
    show Bc (Nat.ble 0 r) (some (EV.slice b (Bc (Nat.beq r 0) off (Nat.add off (Nat.mul 0 1))) n r false)) none=_;rw[aR (cS _),Al];have:Bc (Nat.beq r 0) off (Nat.add off (Nat.mul 0 1))=off:=by
     rw[show Nat.add off (Nat.mul 0 1)=off from rfl];cases Nat.beq r 0<;>rfl
    rw[this]
  unfold iK;rw[this];rfl
 ·rw[u]
  have:=congrArg (fun z=>z.take n) e5;simp only[List.take_take,eU C]at this;rw[this];unfold Be;rw[List.map_take]
theorem Bs.drop{l:List Nat}{r:Nat}(s:Bs h (.slice b off l.length r op) b off l)(T:n<l.length):(∀k:EV->R,iK 1 (.slice b off l.length r op) (some (.int .i64 (n:Int))) none none k=k (.slice b (off+n) (l.length-n) (r-n) op))/\Bs h (.slice b (off+n) (l.length-n) (r-n) op) b (off+n) (l.drop n):=by
 obtain⟨U,E,o,row,e1,e0,e2,e3,e4,e5⟩:=s.Ph;injection e1 with _ _ _ J L;subst J L;have u:(l.drop n).length=l.length-n:=by rw[bA]
 refine⟨fun k=>?_,⟨r-n,op,o,row,by rw[u],by rw[u];omega,e2,e3,by rw[u];omega,?_⟩⟩
 ·have:je (.slice b off l.length r op) 1 (some (.int .i64 (n:Int))) none none=some (.slice b (off+n) (l.length-n) (r-n) op):=by
   have B:bound (some (.int .i64 (n:Int))) l.length 0=some n:=by
    show Bc (Nat.ble n l.length) (some n) none=_;rw[aR a_,Al]
   have C:bound none r l.length=some l.length:=rfl;unfold je;simp only[B,C];cases op with
   | true=>
    rw[Al];cases n with
    | zero=>rfl
    | succ n=>
     rw[show Nat.beq (n+1) 0=false from rfl,Bk,aR (by show n+1+1<=r;omega),Al,show Nat.mul (n+1) 1=n+1 from bc _];rfl
   | false=>
    rw[Bk,aR (by show n<=r;omega),Al,show Nat.mul n 1=n from bc _];have:Nat.beq r n=false:=by
     cases O:Nat.beq r n with
     | false=>rfl
     | true=>have:=aK O;omega
    rw[this,Bk];rfl
  unfold iK;rw[this];rfl
 ·have:=congrArg (fun z=>z.drop n) e5
  rw[u];simp only[List.drop_take,cV]at this;rw[this];unfold Be;rw[List.map_drop]
theorem Ce.bs{s:EV}{q:Nat}{l:List Nat}(r:Ce h s q 5 1 l.length (Be l))(o:0<l.length):Bs h s q 0 l:=by
 refine⟨l.length,true,_,Be l,r.slice o,aE _,r.block o,rfl,by rw[Bi,bP];exact aE _,?_⟩;rw[dE,<-Bi,bY]
def Bs0:EV->Nat
 | .int _ x=>x.toNat
 | _=>0
def kM:List Nat:=Bf.map Bs0
theorem Bgd:Bf=kM.map (Nk .u32):=by kernel_rfl
theorem Brd:kM.all (fun n=>Nat.blt n 4294967296)=true:=by kernel_rfl
theorem VH:kM.length=256:=by kernel_rfl
def nv(r c:Nat):Nat:=(r/256) ^^^ (kM[(r%256) ^^^ c]?).getD 0
theorem AH(u:i<256):Bf[i]? = some (Nk .u32 ((kM[i]?).getD 0))/\(kM[i]?).getD 0<4294967296:=by
 have o:i<kM.length:=by rw[VH];exact u
 rw[Bgd,bH,aD o];refine⟨rfl,?_⟩;have:=dS.1 Brd _ (bI o);exact bG this
theorem ri {r c:Nat}(B:r<4294967296)(o:c<256):nv r c<4294967296:=by
 unfold nv;have u:(r%256) ^^^ c<2^8:=dN (n:=8) (gR _ c_) o;exact dN (n:=32) (by show r/256<4294967296;omega) (AH u).2
theorem Bqp{r c:Nat}(J:r<4294967296)(u:c<256):Ok (Yg K Us (Nk .u32 r) (Nk .u8 c) h) fun v h'=>v=Nk .u32 (nv r c)/\Ext h h':=by
 unfold Us;simp only[Yg,Aa];obtain⟨L,B,C,E,_⟩:=nW h (.cells Bf 68);rw[B];rw[show ∀k:EV->R,iQ (bin TT .shr 66) (Nk .u32 r) (.int .u64 8) k=k (Nk .u32 (r/256))from fun k=>tP (s:=8) c_];have o:(r%256) ^^^ c<256:=dN (n:=8) (gR _ c_) u;rw[wrap_u8,WT (gR _ c_) u,show ∀k:EV->R,ki 256 1 (.ptr h.next 0) (Nk .u8 ((r%256) ^^^ c)) k=k (.ptr h.next (0+((r%256) ^^^ c)*1))from fun k=>Vs o];rw[Cy E rfl,bP,bc,(AH o).1];simp only[Hf];rw[WS a_ (AH o).2];exact .ret ⟨rfl,C⟩
def kN(r:Nat)(l:List Nat):Nat:=l.foldl nv r
theorem wu:∀(l:List Nat) (r:Nat),r<4294967296->(∀b∈l,b<256)->kN r l<4294967296
 | [],r,o,_=>o
 | c::l,r,o,u=>wu l (nv r c) (ri o (u c (aW ..))) fun b hb=>u b (aT _ hb)
theorem Bhs {T:Nat}{x:EV}{l:List Nat}(E:∀b∈l,b<256)(U:l.length<=5000){r0:Nat}(h0:r0<4294967296):∀(m i:Nat) (h:Ab),l.length-i<m->i<=l.length->HB h->h.get T=some (.cells Bf 68)->Bs h x b off l ->
 Ok (Nt K m (.ptr T 0) (Nk .u32 (kN r0 (l.take i))) x (I l.length) (I i) h) fun v h'=>v=Nk .u32 (kN r0 l)/\Ext h h':=by
 intro m;induction m with
 | zero=>intro i h hm;omega
 | succ m ih=>
  intro i h hm W hb J s;simp only[Nt,I,Ac,Aa];by_cases u:(i:Int)<l.length
  ·have o:i<l.length:=a_
   obtain⟨e1,e2⟩:=s.ix o;simp only[u,aC,Aa,KC,e1,e2,Cz J rfl];rw[Ak Qe];simp only[Hf];have C:∀b∈l.take i,b<256:=fun b hb=>E b (bV hb)
   refine(Bqp (K:=K) (wu _ _ h0 C) (E _ (bI o))).Am ?_;rintro _ L ⟨rfl,B⟩;simp only[KB,I,Ac];rw[Ch];have e:nv (kN r0 (l.take i)) l[i]=kN r0 (l.take (i+1)):=by
    unfold kN;rw[fZ,List.foldl_append,aD o];rfl
   rw[e];refine(ih (i+1) L a_ a_ (B.hb hb) (B.at hb J) (s.ext hb B)).mono ?_;rintro v h' ⟨e,O⟩;exact⟨e,B.trans O⟩
  ·have:i=l.length:=a_
   subst this;simp only[u,aA,Aa,KA,bY];exact .ret ⟨rfl,Av.refl _⟩
def Fq(l:List Nat):Nat:=kN 4294967295 l ^^^ 4294967295
theorem qX {l:List Nat}(o:∀b∈l,b<256):Fq l<4294967296:=dN (n:=32) (wu l _ c_ o) c_
theorem wv{x:EV}{l:List Nat}(hK:10000<K)(s:Bs h x b off l)(hb:HB h)(u:∀b∈l,b<256)(B:l.length<=5000):Ok (Oi K Us x h) fun v h'=>v=Nk .u32 (Fq l)/\Ext h h':=by
 unfold Us;simp only[Oi,Aa];obtain⟨C,E,o,J,_⟩:=nW h (.cells Bf 68);rw[E];have s1:=s.ext hb o;simp only[xS,s1.Ip,dr];refine(Bhs (K:=K) u B (r0:=4294967295) c_ K 0 C a_ (cS _) (o.hb hb) J s1).Am ?_;rintro _ h2 ⟨rfl,L⟩;rw[show ∀k:EV->R,iQ (bin TT .xor 66) (Nk .u32 (kN 4294967295 l)) (.int .u32 4294967295) k=k (Nk .u32 (Fq l))from fun k=>WS (b:=4294967295) (wu l _ c_ u) c_];exact .ret ⟨rfl,o.trans L⟩
theorem Ce.cells{s:EV}{q:Nat}{l:List Nat}(r:Ce h s q 5 1 l.length (Be l)):Pm h 1 l.length s=some (Be l):=by
 rcases eI l.length with h0|hp
 ·have:l = []:=cO.1 h0
  subst this;rcases r with⟨_,_,rfl|⟨b,rfl⟩⟩|⟨y,_⟩
  ·rfl
  ·rfl
  ·exact absurd y (bT _)
 ·exact(r.bs hp).cells
theorem BR{P q:Nat}{s:EV}(g:h.get P=some (.cells [s,.bool false] t))(r:Ce h s q 5 1 out.length (Be out))(hb:HB h)(L:out.length<=60000):
 Ok (Oq K (.ptr P 0) h) fun v h'=>∃y q',v=.tuple [y,I 0]/\Ce h' y q' 5 1 out.length (Be out)/\Ext h h'/\HB h'/\(0<out.length->h.next<=q'):=by
 simp only[Oq,Aa,Cy g rfl,IX];rw[show Ca [(.int .u8 0)] 5 1 0 [] h=some (.slice h.next 0 0 0 false,h.new (.cells [] 5))from rfl,Au];have o:Ext h (h.new (.cells [] 5)):=Av.new _ _;have B:=o.at hb g;have u:Ce (h.new (.cells [] 5)) s q 5 1 out.length (Be out):=r.frame fun y=>o.get _ (hb _ _ (r.block y)) id
 generalize h.new (.cells [] 5)=O at o B u⊢;simp only[Aa,Cy B rfl];refine(X9 (b:=h.next) (e:=5) u.len a_ u.cells (by rw[Bi,bc]) 0).Am ?_;rintro v h2 ⟨q',E,C,J⟩;refine .ret ⟨v,q',rfl,E,o.trans C,(o.trans C).hb hb,fun y=>?_⟩;have:=J y;have:=o.next
 omega
theorem WW{P:Nat}(p:mF h P t out false)(hb:HB h)(o:out.length<=60000):
 Ok (Oq K (.ptr P 0) h) fun v h'=>∃y q',v=.tuple [y,I 0]/\Ce h' y q' 5 1 out.length (Be out)/\Ext h h'/\HB h'/\(0<out.length->h.next<=q'):=by
 obtain⟨s,q,g,r,_⟩:=p.Ph;exact BR g r hb o
theorem Bub(s:Nat):Pc 4 s = [s%256,s/256%256,s/65536%256,s/16777216%256]:=by
 simp[Pc,cr]
theorem Bsz(a b c d:Int)(h:Ab):Ca [(.int .u8 0)] 5 1 4 [(0,.int .u8 a),(1,.int .u8 b),(2,.int .u8 c),(3,.int .u8 d)] h=some (.slice h.next 0 4 4 false,h.new (.cells [.int .u8 a,.int .u8 b,.int .u8 c,.int .u8 d] 5)):=rfl
theorem Bqh{x:EV}{l:List Nat}(hK:10000<K)(s:Bs h x b off l)(hb:HB h)(hl:∀b∈l,b<256)(h0:0<l.length)(hn:l.length<=5000):
 Ok (Yj K Us x h) fun v h'=>∃q',Ce h' v q' 5 1 (l++Pc 4 (Fq l)).length (Be (l++Pc 4 (Fq l)))/\Ext h h'/\HB h'/\h.next<=q':=by
 unfold Us;simp only[Yj,Aa];obtain⟨h1,e_,u,g3,_⟩:=nW h (.cells Bf 68);rw[e_];have o:=u.hb hb;rw[Cz g3 rfl,Ak Qe];simp only[Hf];refine(wv (K:=K) hK (s.ext hb u) o hl hn).Am ?_;rintro _ h2 ⟨rfl,B⟩;have C:=B.hb o;have s2:=(s.ext hb u).ext o B;rw[show Ca [(.int .u8 0)] 5 1 0 [] h2=some (.slice h2.next 0 0 0 false,h2.new (.cells [] 5))from rfl,Au];have J:Ext h2 (h2.new (.cells [] 5)):=Av.new _ _;have O:=s2.ext C J;have n3:(h2.new (.cells [] 5)).next=h2.next+1:=rfl
 generalize h2.new (.cells [] 5)=h3 at J O n3⊢;have T:=J.hb C;refine(X9 (b:=h2.next) (e:=5) O.len a_ O.cells (by rw[Bi,bc]) 0).Am ?_;rintro v h4 ⟨q',r4,U,l4⟩;have W:=U.hb T;rw[show ∀k:EV->R,Sz .u8 (Nk .u32 (Fq l)) k=k (Nk .u8 (Fq l%256))from fun k=>wq];rw[show ∀k:EV->R,iQ (bin TT .shr 66) (Nk .u32 (Fq l)) (.int .u64 8) k=k (Nk .u32 (Fq l/256))from fun k=>tP (s:=8) c_];rw[show ∀k:EV->R,Sz .u8 (Nk .u32 (Fq l/256)) k=k (Nk .u8 (Fq l/256%256))from fun k=>wq];rw[show ∀k:EV->R,iQ (bin TT .shr 66) (Nk .u32 (Fq l)) (.int .u64 16) k=k (Nk .u32 (Fq l/65536))from fun k=>tP (s:=16) c_];rw[show ∀k:EV->R,Sz .u8 (Nk .u32 (Fq l/65536)) k=k (Nk .u8 (Fq l/65536%256))from fun k=>wq];rw[show ∀k:EV->R,iQ (bin TT .shr 66) (Nk .u32 (Fq l)) (.int .u64 24) k=k (Nk .u32 (Fq l/16777216))from fun k=>tP (s:=24) c_];rw[show ∀k:EV->R,Sz .u8 (Nk .u32 (Fq l/16777216)) k=k (Nk .u8 (Fq l/16777216%256))from fun k=>wq];rw[Bsz,Au];have L:Ext h4 (h4.new (.cells (Be (Pc 4 (Fq l))) 5)):=Av.new _ _;have e5:Be (Pc 4 (Fq l)) = [Nk .u8 (Fq l%256),Nk .u8 (Fq l/256%256),Nk .u8 (Fq l/65536%256),Nk .u8 (Fq l/16777216%256)]:=by rw[Bub];rfl
 rw[e5]at L;have r5:Ce (h4.new (.cells [Nk .u8 (Fq l%256),Nk .u8 (Fq l/256%256),Nk .u8 (Fq l/65536%256),Nk .u8 (Fq l/16777216%256)] 5)) v q' 5 1 l.length (Be l):=r4.frame fun y=>L.get _ (W _ _ (r4.block y)) id
 have g5:(h4.new (.cells [Nk .u8 (Fq l%256),Nk .u8 (Fq l/256%256),Nk .u8 (Fq l/65536%256),Nk .u8 (Fq l/16777216%256)] 5)).get h4.next=some (.cells [Nk .u8 (Fq l%256),Nk .u8 (Fq l/256%256),Nk .u8 (Fq l/65536%256),Nk .u8 (Fq l/16777216%256)] 5):=Ad _ _
 have n5:(h4.new (.cells [Nk .u8 (Fq l%256),Nk .u8 (Fq l/256%256),Nk .u8 (Fq l/65536%256),Nk .u8 (Fq l/16777216%256)] 5)).next=h4.next+1:=rfl
 generalize h4.new (.cells [Nk .u8 (Fq l%256),Nk .u8 (Fq l/256%256),Nk .u8 (Fq l/65536%256),Nk .u8 (Fq l/16777216%256)] 5)=X at L r5 g5 n5⊢;have Y:Pm X 1 4 (.slice h4.next 0 4 4 false)=some (Be (Pc 4 (Fq l))):=by
  show Yy X h4.next 0 4=_
  unfold Yy mV;rw[g5,e5];rfl
 obtain⟨h6,e6,r6,n6,c6⟩:=qp r5 rfl c_ c_ a_ Y (by rw[Bi,De]);rw[e6,Au];have hq:=l4 h0;have E:Ext h h6:=by
  refine((u.trans B).trans ((J.trans U).trans L)).then c6 fun j hj au=>?_
  have:=u.next;have:=B.next;have:=hj.2;omega
 refine .ret ⟨X.next,?_,E,E.hb hb,?_⟩
 ·rw[rD,aF,De];exact r6
 ·have:=u.next;have:=B.next;have:=U.next;omega
theorem Br0 {a:Nat}(k:EV->R):K3 i_ (bin TT .neq t) (Nk .u8 a) (Nk .u8 b) k=k (.bool (decide (¬a=b))):=by
 show k (i_ .u8 (Int.ofNat a) (Int.ofNat b))=_;rw[FW,rX,uv];exact congrArg (fun b=>k (.bool b)) (eJ.2 (not_congr ⟨Int.ofNat.inj,congrArg _⟩))
def j8(l:List Nat):Bool:=decide (Pc 4 (Fq (l.take (l.length-4)))=l.drop (l.length-4))
def WX(h:Ab)(l:List Nat)(v:EV)(h':Ab):Prop:=Ext h h'/\HB h'/\((j8 l=false/\v=.tuple [.Aq,I 11])\/(j8 l=true/\∃y q',v=.tuple [y,I 0]/\Ce h' y q' 5 1 (l.take (l.length-4)).length (Be (l.take (l.length-4)))/\h.next<=q'))
theorem Bij {x y:EV}{u:Nat}{l:List Nat}(h4:4<l.length)(hn:l.length<=5000)(hl:∀b∈l,b<256)(h0:Ab):∀(m i:Nat) (h:Ab),4-i<m->i<=4->HB h->Ext h0 h->Bs h x b off l->Bs h y b u (l.drop (l.length-4))->(∀j (hj:j<i),(l.drop (l.length-4))[j]? = some (Fq (l.take (l.length-4))/256^j%256)) ->
 Ok (N0 K m x (I ((l.length-4:Nat):Int)) (Nk .u32 (Fq (l.take (l.length-4))/256^i)) y (I 4) (I i) h) (WX h0 l):=by
 intro m;have hd:(l.drop (l.length-4)).length=4:=by rw[bA];omega
 have hs:=qX (l:=l.take (l.length-4)) fun b hb=>hl b (bV hb)
 induction m with
 | zero=>intro i h hm;omega
 | succ m ih=>
  intro i h hm hi hb E U W hj;simp only[N0,I,Ac,Aa];by_cases B:(i:Int)<4
  ·have o:i<(l.drop (l.length-4)).length:=a_
   obtain⟨e1,e2⟩:=W.ix o;simp only[B,aC,Aa,LX,e1,e2];rw[wrap_u8];rw[Br0];by_cases J:(l.drop (l.length-4))[i]=Fq (l.take (l.length-4))/256^i%256
   ·simp only[J,aB,aA,Aa,LW]
    rw[show ∀k:EV->R,iQ (bin TT .shr 66) (Nk .u32 (Fq (l.take (l.length-4))/256^i)) (.int .u64 8) k=k (Nk .u32 (Fq (l.take (l.length-4))/256^i/256))from fun k=>tP (s:=8) c_];simp only[LV,I,Ac];rw[Ch,fO,<-fF];refine ih (i+1) h a_ a_ hb E U W fun j ad=>?_
    by_cases O:j=i
    ·subst O;rw[aD o,J]
    ·exact hj j a_
   ·simp only[J,aQ,aC,Aa]
    refine .ret ⟨E,hb,.inl ⟨aL fun y=>J ?_,rfl⟩⟩;have:=congrArg (fun z=>z[i]?) y;simp only[Pc]at this;rw[aD o,bH,cX a_]at this;exact(gN this).symm
  ·have:i=4:=a_
   subst this;simp only[B,aA,Aa,LU];have ho:j8 l=true:=aO (by
    apply dF;intro j;by_cases C:j<4
    ·rw[hj j C];unfold Pc;rw[bH,cX C];rfl
    ·rw[cD (by rw[De];omega),cD a_])
   rw[show Ca [(.int .u8 0)] 5 1 0 [] h=some (.slice h.next 0 0 0 false,h.new (.cells [] 5))from rfl,Au];have L:Ext h (h.new (.cells [] 5)):=Av.new _ _;have X:=U.ext hb L;have n3:(h.new (.cells [] 5)).next=h.next+1:=rfl
   generalize h.new (.cells [] 5)=h3 at L X n3⊢;have T:=L.hb hb;obtain⟨w,e3,Y⟩:=X.take (n:=l.length-4) a_;rw[e3];refine(X9 (b:=h.next) (e:=5) Y.len (by rw[bW];omega) Y.cells (by rw[Bi,bc]) 0).Am ?_;rintro v af ⟨q',r4,x4,l4⟩;refine .ret ⟨E.trans (L.trans x4),x4.hb T,.inr ⟨ho,v,q',rfl,r4,?_⟩⟩;have:=l4 (by rw[bW];omega);have:=E.next
   omega
theorem Bp7{r:Nat}{l:List Nat}(hK:10000<K)(s:Bs h (.slice b off l.length r op) b off l)(hb:HB h)(E:∀b∈l,b<256)(h4:4<l.length)(L:l.length<=5000):
 Ok (Yk K Us (.slice b off l.length r op) h) (WX h l):=by
 unfold Us;simp only[Yk,Aa];obtain⟨Y,O,B,J,_⟩:=nW h (.cells Bf 68);rw[O];have o:=B.hb hb;have s1:=s.ext hb B;have T:=o _ _ J;simp only[Ac];rw[Ch,show(l.length:Int)-4=((l.length-4:Nat):Int) from a_,show decide (((l.length-4:Nat):Int)<0)=false from aL a_];simp only[Aa,LY,Cq T,As,Cz J rfl,Ak Qe];obtain⟨w,e3,U⟩:=s1.take (n:=l.length-4) a_;rw[e3];refine Ok.bE (wv (K:=K) hK U.lift (C8 o) (fun b hb=>E b (bV hb)) (by rw[bW];omega)) (fun _ _ p=>p.2) ?_;rintro _ h2 W ⟨rfl,_⟩ sm u;have C:=u.hb o;obtain⟨e5,X⟩:=(s1.ext o u).drop (n:=l.length-4) a_;rw[e5];simp only[Aa];have:=Bij (K:=K) (x:=.slice b off l.length r op) h4 L E h K 0 W a_ c_ C (B.trans u) (s1.ext o u) X (fun j hj=>absurd hj (cC _));rw[Nat.pow_zero,Nat.div_one]at this;rw[show l.length-(l.length-4)=4 from a_]at this⊢;exact this
structure Rd(h:Ab)(R q off:Nat)(l:List Nat):Prop where
 Ph:∃s,h.get R=some (.cells [s,.bool false] 228)/\lenOf s=some l.length/\(0<l.length->s=.slice q off l.length l.length true/\Bs h s q off l)
 ne:q<R
theorem Rd.ext{R q:Nat}{l:List Nat}(d:Rd h R q off l)(hb:HB h)(c:Ext h h'):Rd h' R q off l:=by
 obtain⟨s,g,e,f⟩:=d.Ph;exact⟨⟨s,c.at hb g,e,fun y=>⟨(f y).1,(f y).2.ext hb c⟩⟩,d.ne⟩
theorem v_{x:EV}{l:List Nat}(s:Bs h x b off l)(hb:HB h)(h0:0<l.length:=by omega)(U:l.length<=5000:=by omega):
 Ok (pw K x h) fun v h'=>∃R q,v=.ptr R 0/\Rd h' R q 0 l/\Ext h h'/\HB h'/\h.next<=q:=by
 simp only[pw,dr];rw[show Ca [(.int .u8 0)] 5 1 0 [] h=some (.slice h.next 0 0 0 false,h.new (.cells [] 5))from rfl,Au];have u:Ext h (h.new (.cells [] 5)):=Av.new _ _;have s1:=s.ext hb u;generalize h.new (.cells [] 5)=W at u s1⊢;have B:=u.hb hb;refine(X9 (b:=h.next) (e:=5) s1.len a_ s1.cells (by rw[Bi,bc]) 0).Am ?_;rintro v h2 ⟨q',C,L,O⟩;have o:=L.hb B;have E:=C.slice h0;subst E;rw[Ay (l:=[.slice q' 0 l.length l.length true,.bool false]) rfl];simp only[Aa];have J:Ext h2 (h2.new (.cells [.slice q' 0 l.length l.length true,.bool false] 228)):=Av.new _ _;have T:=(C.bs h0).ext o J;refine .ret ⟨h2.next,q',rfl,⟨⟨_,Ad _ _,rfl,fun _=>⟨rfl,T⟩⟩,o _ _ (C.block h0)⟩,u.trans (L.trans J),J.hb o,?_⟩;have:=O h0;have:=u.next
 omega
theorem WY{R q:Nat}{l:List Nat}(d:Rd h R q off l)(hb:HB h)(h0:0<n)(E:n<=l.length):
 Ok (Ku K (.ptr R 0) (I n) h) fun v h'=>Bs h' v q off (l.take n)/\Rd h' R q (off+n) (l.drop n)/\Av (fun i=>i=R) h h'/\HB h':=by
 obtain⟨s,g,e,f⟩:=d.Ph;obtain⟨rfl,s1⟩:=f a_;have C:=hb _ _ g;have J:R≠q:=by have:=d.ne;omega
 simp only[Ku,Aa,Cy g rfl,Ac,I];rw[show decide ((n:Int)<0)=false from aL a_];simp only[Aa,IW,Ac,Cy g rfl];rw[show decide ((l.length:Int)<(n:Int))=false from aL a_];simp only[Aa,IV,IU,Cy g rfl];have e1:∀k:EV->Go.Ev.R,iK 1 (.slice q off l.length l.length true) none (some (.int .i64 (n:Int))) (some (.int .i64 (n:Int))) k=k (.slice q off n n false):=fun k=>by
  have:je (.slice q off l.length l.length true) 1 none (some (.int .i64 (n:Int))) (some (.int .i64 (n:Int)))=some (.slice q off n n false):=by
   have b1:bound (some (.int .i64 (n:Int))) l.length 0=some n:=by
    show Bc (Nat.ble n l.length) (some n) none=_;rw[aR E,Al]
   have b2:bound (some (.int .i64 (n:Int))) n 0=some n:=by
    show Bc (Nat.ble n n) (some n) none=_;rw[aR (aE _),Al]
   unfold je;simp only[b1,b2];show some (EV.slice q (Bc (Nat.beq n 0) off (Nat.add off (Nat.mul 0 1))) n n false)=_;rw[show Nat.add off (Nat.mul 0 1)=off from rfl];cases Nat.beq n 0<;>rfl
  unfold iK;rw[this];rfl
 rw[e1];obtain⟨r',W,o,row,f1,f0,f2,f3,f4,f5⟩:=s1.Ph;have u:(l.take n).length=n:=by rw[bW,eU E]
 have B:(l.drop n).length=l.length-n:=bA;have U:Bs h (.slice q off n n false) q off (l.take n):=by
  refine⟨n,false,o,row,by rw[u],by rw[u];exact aE _,f2,f3,by rw[u];omega,?_⟩;rw[u];have:=congrArg (fun z=>z.take n) f5;simp only[List.take_take,eU E]at this;rw[this];unfold Be;rw[List.map_take]
 have put:∀w:EV,(h.put R (.cells [w,.bool false] 228)).get q=h.get q:=fun w=>Af _ J
 rcases dQ n l.length with L|X
 ·obtain⟨e2,s2⟩:=s1.drop L
  rw[e2];refine Ok.hM g rfl rfl (by show 0<2;decide) ?_;refine .ret ⟨U.frame (put _),⟨⟨_,Ae _ _ _,by rw[B];rfl,fun _=>⟨by rw[B],s2.frame (put _)⟩⟩,d.ne⟩,(Av.refl (S:=fun i=>i=R) h).Ar (.inl rfl) C _,hb.put C _⟩
 ·have O:n=l.length:=a_
  subst O;have e2:∀k:EV->Go.Ev.R,iK 1 (.slice q off l.length l.length true) (some (.int .i64 (l.length:Int))) none none k=k (.tail q (off+l.length) off):=fun k=>by
   have:je (.slice q off l.length l.length true) 1 (some (.int .i64 (l.length:Int))) none none=some (.tail q (off+l.length) off):=by
    have b1:bound (some (.int .i64 (l.length:Int))) l.length 0=some l.length:=by
     show Bc (Nat.ble l.length l.length) (some l.length) none=_;rw[aR (aE _),Al]
    have b2:bound none l.length l.length=some l.length:=rfl;unfold je;simp only[b1,b2];rw[Al];have z1:Nat.beq l.length 0=false:=by
     cases T:Nat.beq l.length 0 with
     | false=>rfl
     | true=>have:=aK T;omega
    have Y:Nat.ble (Nat.succ l.length) l.length=false:=by
     cases T:Nat.ble (Nat.succ l.length) l.length with
     | false=>rfl
     | true=>have:=bG T;omega
    rw[z1,Bk,Y,Bk,cL,Al,Al,show Nat.mul l.length 1=l.length from bc _];rfl
   unfold iK;rw[this];rfl
  rw[e2];refine Ok.hM g rfl rfl (by show 0<2;decide) ?_;refine .ret ⟨U.frame (put _),⟨⟨_,Ae _ _ _,by rw[B,fU];rfl,fun y=>by rw[B,fU]at y;exact absurd y (bT _)⟩,d.ne⟩,(Av.refl (S:=fun i=>i=R) h).Ar (.inl rfl) C _,hb.put C _⟩
def Ps:List Nat->Nat
 | []=>0
 | b::r=>b+256*Ps r
theorem AJ:∀(a:List Nat) (b:Nat),Ps (a++[b])=Ps a+256^a.length*b
 | [],b=>by simp[Ps]
 | x::a,b=>by
  have:=AJ a b;simp only[List.cons_append,Ps,this,bJ,fF];rw[Nat.mul_add,<-Nat.add_assoc,Nat.mul_comm (256^a.length) 256,Nat.mul_assoc]
theorem AK:∀(a:List Nat),(∀b∈a,b<256)->Ps a<256^a.length
 | [],_=>by simp[Ps]
 | x::a,h=>by
  have o:=h x (aW ..);have h2:=AK a fun b hb=>h b (aT _ hb)
  simp only[Ps,bJ,fF];omega
theorem wrap_u64(a:Nat):Dl .u64 (Int.ofNat a)=Int.ofNat (a%18446744073709551616):=by
 rw[Nw];rfl
theorem Bps {a s:Nat}(hs:s<=64)(hb:a*2^s<9223372036854775808){k:EV->Go.Ev.R}:iQ (bin TT .shl t) (.int .i64 (Int.ofNat a)) (.int .u64 (Int.ofNat s)) k=k (Nk .i64 (a*2^s)):=by
 show k (.int .i64 (Dl .i64 (Int.mul (.ofNat a) (.ofNat (Nat.pow 2 (Bc (Nat.ble s 64) s 64))))))=_;rw[aR hs,Al];have:Int.mul (.ofNat a) (.ofNat (Nat.pow 2 s))=((a*2^s:Nat):Int):=rfl;rw[this,Ch];rfl
theorem Br8 {a:Nat}(h:a||| b<9223372036854775808){k:EV->Go.Ev.R}:iQ (bin TT .or t) (.int .i64 (Int.ofNat a)) (.int .i64 (Int.ofNat b)) k=k (Nk .i64 (a||| b)):=by
 show k (.int .i64 (Dl .i64 (.ofNat (Nat.lor a b))))=_;have:Int.ofNat (Nat.lor a b)=((a||| b:Nat):Int):=rfl;rw[this,Ch];rfl
theorem Bl5{x:EV}{l:List Nat}(L:∀b∈l,b<256)(U:l.length<=7):∀(m i:Nat) (h:Ab),l.length-i<m->i<=l.length->Bs h x b off l ->
 Lk K m (Nk .i64 (Ps (l.take i))) x (I l.length) (I i) h=some (Nk .i64 (Ps l),h):=by
 intro m;induction m with
 | zero=>intro i h hm;omega
 | succ m ih=>
  intro i h hm T s;simp only[Lk,I,Ac,Aa];by_cases B:(i:Int)<l.length
  ·have o:i<l.length:=a_
   obtain⟨e1,e2⟩:=s.ix o;have hb:=L _ (bI o);simp only[B,aC,Aa,KI,e1,e2,Ac];have hp:(256:Nat)^i=2^(8*i):=by rw[Nat.pow_mul]
   have u:(256:Nat)^i<=256^6:=gE c_ a_;have u:(256:Nat)^i<=281474976710656:=u;have hmul:l[i]*256^i<=255*281474976710656:=gU a_ u;rw[show Dl .i64 (Int.ofNat l[i])=Int.ofNat l[i]from Ch (by show _<=((l[i]:Nat):Int);omega) (by show((l[i]:Nat):Int)<=_;omega)];rw[show(8:Int)*(i:Int)=((8*i:Nat):Int) from a_,Ch];rw[show Dl .u64 ((8*i:Nat):Int)=Int.ofNat (8*i)from by have:=wrap_u64 (8*i);rw[fD a_]at this;exact this];rw[Bps a_ (by rw[<-hp];omega)];have O:(l.take i).length=i:=by rw[bW,eU T]
   have C:Ps (l.take i)<2^(8*i):=by
    have:=AK (l.take i) fun b hb=>L b (bV hb)
    rw[O,hp]at this;exact this
   have E:Ps (l.take i)||| l[i]*2^(8*i)=Ps (l.take (i+1)):=by
    rw[fZ,aD o];show _=Ps (l.take i++[l[i]]);rw[AJ,O,Nat.or_comm,Nat.mul_comm l[i],<-Nat.two_pow_add_eq_or_of_lt C,hp,Nat.add_comm]
   have J:Ps (l.take (i+1))<9223372036854775808:=by
    have:=AK (l.take (i+1)) fun b hb=>L b (bV hb)
    have h2:(256:Nat)^(l.take (i+1)).length<=256^7:=gE c_ (by rw[bW];omega);have W:(256:Nat)^7=72057594037927936:=c_
    omega
   rw[Br8 (by rw[E];exact J),E];simp only[KH,I,Ac];rw[Ch];exact ih (i+1) h a_ a_ s
  ·have:i=l.length:=a_
   subst this;simp only[B,aA,Aa,KG,bY]
theorem Ln{R q w:Nat}{l:List Nat}(d:Rd h R q off l)(hb:HB h)(hK:1000<K)(B:1<=w)(E:w<=7)(u:w<=l.length)(C:∀b∈l,b<256):
 Ok (E6 K (.ptr R 0) (I w) h) fun v h'=>v=Nk .i64 (Ps (l.take w))/\Rd h' R q (off+w) (l.drop w)/\Av (fun i=>i=R) h h'/\HB h':=by
 simp only[E6,dr];rw[wU,aO ⟨a_,a_⟩];simp only[Aa,KJ];refine(WY (K:=K) d hb B u).Am ?_;rintro v h2 ⟨s,d2,c2,o⟩;rw[s.Ip];have J:(l.take w).length=w:=by rw[bW,eU u]
 have:=Bl5 (K:=K) (l:=l.take w) (fun b hb=>C b (bV hb)) a_ K 0 h2 a_ (cS _) s;rw[show EV.int .i64 0=Nk .i64 (Ps ((l.take w).take 0))from rfl];exact⟨_,_,this,rfl,d2,c2,o⟩
theorem WZ{R q:Nat}{l:List Nat}(d:Rd h R q off l)(hb:HB h)(h0:0<n)(o:n<=l.length:=by omega):
 Ok (Mg K (.ptr R 0) (I n) h) fun v h'=>Bs h' v q off (l.take n)/\Rd h' R q (off+n) (l.drop n)/\Av (fun i=>i=R) h h'/\HB h':=by
 simp only[Mg,dr];refine(WY (K:=K) d hb h0 o).Am ?_;intro v h2 p;exact .ret p
theorem Bok{R q:Nat}(d:Rd h R q off []):Rw K (.ptr R 0) h=some (I 0,h):=by
 obtain⟨s,g,e,f⟩:=d.Ph;simp only[Rw,Aa,Cy g rfl,Ac];have:∀k:EV->Go.Ev.R,Ip s k=k (I 0):=fun k=>by unfold Ip;rw[e];rfl
 rw[this];simp only[I,Ac];rfl
structure Fr where
 kind:Int
 Ai:Int
 off:Int
 Ao:Int
 seq:Int
 body:List Nat
def Fr.cells(f:Fr):List EV:=[I f.kind,I f.Ai,I f.off,I f.Ao,I f.seq]++Be f.body
structure Fr.Wf(f:Fr):Prop where
 len:f.body.length=44
 u8:∀b∈f.body,b<256
def iv(f:Fr):Bool:=wi f.kind 1 5&&(wi f.Ai 0 65535&&(wi f.off 0 65535&&(wi f.Ao 1 4294967295&&wi f.seq 0 281474976710655)))
theorem Qx(n a b:Int)(h:Ab):N5 K (.int .i64 n) (.int .i64 a) (.int .i64 b) h=some (.bool (wi n a b),h):=by
 simp only[N5,Ac,Aa];by_cases o:a<=n
 ·simp only[o,aC,Aa,Ac,xP,wi,bF]
 ·simp only[o,aA,Aa,xP,wi,bB]
theorem Fr.Bh {f:Fr}(w:f.Wf):f.cells.length=49:=by
 unfold Fr.cells;rw[aF,Bi,w.len];rfl
theorem AL(f:Fr):Ok (Ky K (.agg f.cells) h) fun v h'=>v=.bool (iv f)/\Ext h h':=by
 simp only[Ky,Aa];obtain⟨L,B,o,u,_⟩:=nW h (.cells f.cells 153);rw[B];have l0:f.cells[0]? = some (I f.kind):=rfl;have l1:f.cells[1]? = some (I f.Ai):=rfl;have C:f.cells[2]? = some (I f.off):=rfl;have E:f.cells[3]? = some (I f.Ao):=rfl;have J:f.cells[4]? = some (I f.seq):=rfl;simp only[Cy u rfl,Aa,l0,I,Qx,Ac];unfold iv;cases wi f.kind 1 5 with
 | false=>simp only[Aa,Tm,N1,Kk,Hs,Ac];exact .ret ⟨rfl,o⟩
 | true=>
 simp only[Aa,Cy u rfl,l1,I,Qx,Ac,Tm];cases wi f.Ai 0 65535 with
 | false=>simp only[Aa,N1,Kk,Hs,Ac];exact .ret ⟨rfl,o⟩
 | true=>
 simp only[Aa,Cy u rfl,C,I,Qx,Ac,N1];cases wi f.off 0 65535 with
 | false=>simp only[Aa,Kk,Hs,Ac];exact .ret ⟨rfl,o⟩
 | true=>
 simp only[Aa,Cy u rfl,E,I,Qx,Ac,Kk];cases wi f.Ao 1 4294967295 with
 | false=>simp only[Aa,Hs,Ac];exact .ret ⟨rfl,o⟩
 | true=>
 simp only[Aa,Cy u rfl,J,I,Qx,Ac,Hs];exact .ret ⟨by simp only[bF],o⟩
def kz(f:Fr):List Nat:=Pc 1 f.kind.toNat++Pc 1 1++Pc 2 f.Ai.toNat++Pc 2 f.off.toNat++Pc 4 f.Ao.toNat++Pc 6 f.seq.toNat++f.body
def Jh(f:Fr):List Nat:=kz f++Pc 4 (Fq (kz f))
theorem I6(w a:Nat):∀b∈Pc w a,b<256:=fun b hb=>by
 unfold Pc at hb;obtain⟨i,_,rfl⟩:=dK.1 hb;exact gR _ c_
theorem rq {f:Fr}(w:f.Wf):(kz f).length=60:=by
 unfold kz;simp only[aF,De,w.len]
theorem nH {f:Fr}(w:f.Wf):(Jh f).length=64:=by
 unfold Jh;rw[aF,rq w,De]
theorem zN {f:Fr}(w:f.Wf):∀b∈kz f,b<256:=fun b hb=>by
 unfold kz at hb;simp only[bN]at hb;rcases hb with(((((hb|hb)|hb)|hb)|hb)|hb)|hb
 ·exact I6 _ _ b hb
 ·exact I6 _ _ b hb
 ·exact I6 _ _ b hb
 ·exact I6 _ _ b hb
 ·exact I6 _ _ b hb
 ·exact I6 _ _ b hb
 ·exact w.u8 b hb
theorem xh {f:Fr}(w:f.Wf):∀b∈Jh f,b<256:=fun b hb=>by
 unfold Jh at hb;rcases bN.1 hb with hb|hb
 ·exact zN w b hb
 ·exact I6 _ _ b hb
theorem Zb {w:Nat}{b:Int}(h0:0<=v)(hb:v<=b)(hw:b<(256^w:Nat)):fits w v=true:=aO ⟨h0,a_⟩
theorem CM{f:Fr}(w:f.Wf)(hr:iv f=true)(hb:HB h)(hK:10000<K):
 Ok (Xl K Us (.agg f.cells) h) fun v h'=>v=.tuple [.agg (Be (Jh f)),I 0]/\Ext h h':=by
 have au:=hr;simp only[iv,aV]at au;obtain⟨r1,r2,r3,r4,r5⟩:=au;obtain⟨a1,b1⟩:=Fk.1 r1;obtain⟨a2,b2⟩:=Fk.1 r2;obtain⟨a3,b3⟩:=Fk.1 r3;obtain⟨a4,b4⟩:=Fk.1 r4;obtain⟨a5,b5⟩:=Fk.1 r5;have l0:f.cells[0]? = some (I f.kind):=rfl;have l1:f.cells[1]? = some (I f.Ai):=rfl;have l2:f.cells[2]? = some (I f.off):=rfl;have l3:f.cells[3]? = some (I f.Ao):=rfl;have l4:f.cells[4]? = some (I f.seq):=rfl;have aw:=Fr.Bh w;unfold Us;simp only[Xl,Aa];have x1:Ext h (((h.new (.cells Bf 68)).new (.cells f.cells 153)).new (.cells Uu 29)):=((Av.new _ _).Db _).Db _;have C:(((h.new (.cells Bf 68)).new (.cells f.cells 153)).new (.cells Uu 29)).get h.next=some (.cells Bf 68):=by
  rw[Az _ (by show h.next<h.next+1+1;omega),Az _ (aN _)];exact Ad _ _
 have B:(((h.new (.cells Bf 68)).new (.cells f.cells 153)).new (.cells Uu 29)).get (h.next+1)=some (.cells f.cells 153):=by
  rw[Az _ (by show h.next+1<h.next+1+1;omega)];exact Ad _ _
 have u:(((h.new (.cells Bf 68)).new (.cells f.cells 153)).new (.cells Uu 29)).get (h.next+2)=some (.cells Uu 29):=Ad _ _;have n1:(((h.new (.cells Bf 68)).new (.cells f.cells 153)).new (.cells Uu 29)).next=h.next+3:=rfl
 rw[show(h.new (.cells Bf 68)).next=h.next+1 from rfl,show((h.new (.cells Bf 68)).new (.cells f.cells 153)).next=h.next+2 from rfl,show List.replicate 64 (EV.int .u8 0)=Uu from rfl];generalize ((h.new (.cells Bf 68)).new (.cells f.cells 153)).new (.cells Uu 29)=h1 at x1 C B u n1⊢;have W:=x1.hb hb;rw[Cz B rfl,Ak aw];simp only[Hf];refine(AL (K:=K) f).Am ?_;rintro _ h2 ⟨rfl,x2⟩;rw[hr];simp only[Aa,MK];have X:=x2.hb W;have a8:=x1.trans x2;have C:=x2.at W C;have B:=x2.at W B;have u:=x2.at W u;have n2:h.next+3<=h2.next:=by have:=x2.next;omega
 have p0:mF (h2.new (.cells [.Aq,.bool false] 230)) h2.next 230 [] false:=⟨.Aq,0,Ad _ _,.nil _ _ _ _,fun y=>absurd y (bT _)⟩
 have x3:Ext h2 (h2.new (.cells [.Aq,.bool false] 230)):=Av.new _ _;have C:=x3.at X C;have B:=x3.at X B;have u:=x3.at X u;have L:=x3.hb X;have ax:=a8.trans x3;generalize h2.new (.cells [.Aq,.bool false] 230)=h3 at p0 x3 C B u L ax⊢;generalize hP:h2.next=P at p0 n2⊢
 have up:∀{ha hc:Ab},Ext h ha->Av (fun i=>P<=i) ha hc->Ext h hc:=fun x c=>x.then c fun j hj hl=>by
  have hj:P<=j:=hj;omega
 have E:∀{ha hc:Ab} {i:Nat} {o:D5},Av (fun i=>P<=i) ha hc->HB ha->ha.get i=some o->i<P->hc.get i=some o:=fun c hb g hi=>c.at hb g a_
 simp only[Cy B rfl,l0];simp only[Hf];refine(Mb (K:=K) (w:=1) a_ p0 L (by simp) c_ c_ (v:=f.kind)).Am ?_;rintro _ h5 ⟨p,c,Y⟩;rw[Zb (b:=5) a_ b1 c_,aI rfl]at p;have x5:=up ax c;have C:=E c L C a_;have B:=E c L B a_;have u:=E c L u a_;refine(Mb (K:=K) (w:=1) a_ p Y (by simp[De]) c_ c_ (v:=1)).Am ?_;rintro _ h6 ⟨p,c,aa⟩;rw[Zb (b:=1) a_ (cN _) c_,aI rfl]at p;have x6:=up x5 c;have C:=E c Y C a_;have B:=E c Y B a_;have u:=E c Y u a_;simp only[Aa,Cy B rfl,l1];refine(Mb (K:=K) (w:=2) a_ p aa (by simp[De]) c_ c_ (v:=f.Ai)).Am ?_;rintro _ h7 ⟨p,c,ab⟩;rw[Zb (b:=65535) a2 b2 c_,aI rfl]at p;have x7:=up x6 c;have C:=E c aa C a_;have B:=E c aa B a_;have u:=E c aa u a_;simp only[Aa,Cy B rfl,l2];refine(Mb (K:=K) (w:=2) a_ p ab (by simp[De]) c_ c_ (v:=f.off)).Am ?_;rintro _ h8 ⟨p,c,ad⟩;rw[Zb (b:=65535) a3 b3 c_,aI rfl]at p;have x8:=up x7 c;have C:=E c ab C a_;have B:=E c ab B a_;have u:=E c ab u a_;simp only[Aa,Cy B rfl,l3];refine(Mb (K:=K) (w:=4) a_ p ad (by simp[De]) c_ c_ (v:=f.Ao)).Am ?_;rintro _ h9 ⟨p,c,ae⟩;rw[Zb (b:=4294967295) a_ b4 c_,aI rfl]at p;have x9:=up x8 c;have C:=E c ad C a_;have B:=E c ad B a_;have u:=E c ad u a_;simp only[Aa,Cy B rfl,l4];refine(Mb (K:=K) (w:=6) a_ p ae (by simp[De]) c_ c_ (v:=f.seq)).Am ?_;rintro _ az ⟨p,c,O⟩;rw[Zb (b:=281474976710655) a5 b5 c_,aI rfl]at p;have a9:=up x9 c;have C:=E c ae C a_;have B:=E c ae B a_;have u:=E c ae u a_
 try simp only[Aa]
 rw[show ∀k:EV->R,Ny 44 1 (.ptr (h.next+1) 5) none none none k=k (.slice (h.next+1) 5 44 44 false)from fun k=>rfl];have bb:Pm az 1 44 (.slice (h.next+1) 5 44 44 false)=some (Be f.body):=by
  show Yy az (h.next+1) 5 44=_;unfold Yy mV;rw[B];show Ou f.cells 5 44=_;rw[F9 (by rw[aw];decide)];show some (List.take 44 (Be f.body))=_;rw[bS (by rw[Bi,w.len];decide)]
 refine(WV (K:=K) (n:=44) p O (by simp[De]) rfl c_ c_ bb w.len).Am ?_;rintro _ cG ⟨p,c,T⟩;have bf:=up a9 c;have C:=E c O C a_;have u:=E c O u a_;have ep:([]++Pc 1 f.kind.toNat++Pc 1 (1:Int).toNat++Pc 2 f.Ai.toNat++Pc 2 f.off.toNat++Pc 4 f.Ao.toNat++Pc 6 f.seq.toNat++f.body)=kz f:=by
  unfold kz;rw[cU];rfl
 have a0:∀b:Bool,(b||!true)=b:=c_
 rw[ep]at p;simp only[a0]at p;refine(WW (K:=K) p T (by rw[rq w];decide)).Am ?_;rintro _ cT ⟨y,q',rfl,ry,U,ag,lq⟩;have C:=U.at T C;have u:=U.at T u;simp only[Aa,I,Ac];simp only[aB,aA,Aa,MJ];rw[Cz C rfl,Ak Qe];simp only[Hf];have ah:0<(kz f).length:=by rw[rq w];decide
 refine(Bqh (K:=K) hK (ry.bs ah) ag (zN w) ah (by rw[rq w];decide)).Am ?_;rintro v aj ⟨q2,af,ai,a6,c6⟩;have af:Ce aj v q2 5 1 (Jh f).length (Be (Jh f)):=af;have u:=ai.at ag u;have J:=nH w;have bn:=af.slice (by rw[J];decide);subst bn;rw[show ∀k:EV->R,pe 64 (.slice q2 0 (Jh f).length (Jh f).length true) k=k (.ptr q2 0)from fun k=>by rw[J];rfl];rw[Cz (af.block (by rw[J];decide)) rfl,Ak (by rw[Bi,J])];simp only[Hf];refine Ok.st (Be (Jh f)) u rfl (by show Gk (Be (Jh f))=64;rw[Bg,Bi,J]) (Bo (by rw[K8];show 64=(Be (Jh f)).length;rw[Bi,J])) ?_;have bp:(aj.put (h.next+2) (.cells (Be (Jh f)) 29)).get (h.next+2)=some (.cells (Be (Jh f)) 29):=Ae _ _ _;rw[Em bp kR.1 kR.2 (by rw[Bi,J])];have xx:Ext h aj:=bf.trans (U.trans ai);exact .ret ⟨rfl,xx.Ar (.inr a_) (a6 _ _ u) _⟩
variable {f:Fr}
theorem Ok.kP{o:Nat}{l:List EV}{v:EV}(hg:h.get i=some (.cells l t))(hb:HB h)(hp:v.plain=true)(u:v.cells = [v])(B:o<l.length)
 (C:∀h',h'.get i=some (.cells (l.set o v) t)->Av (fun j=>j=i) h h'->HB h'->Ok (kk h') Q):Ok (hQ 1 (.ptr i o) v h kk) Q:=by
 have lt:=hb _ _ hg;exact Ok.hM hg hp u B (C _ (Ae _ _ _) ((Av.refl (S:=fun j=>j=i) h).Ar (.inl rfl) lt _) (hb.put lt _))
theorem sc:∀(hd Bt new:List EV),Bt.length=new.length->Gc (hd++Bt) hd.length new=some (hd++new)
 | [],Bt,new,h=>by
  have:=Bo (l:=Bt) (vs:=new) h;rw[U6]at this;exact this
 | a::hd,Bt,new,h=>by
  have ih:=sc hd Bt new h;show Bc (Nat.beq (hd.length+1) 0) _ (match Gc (hd++Bt) hd.length new with|some x=>some (a::x)|none=>none)=_;rw[show Nat.beq (hd.length+1) 0=false from rfl,Bk,ih];rfl
theorem AM{r:Nat}{t:TypeId}{hd Bt new:List EV}{y:EV}(g:h.get i=some (.cells (hd++Bt) t))(B:lenOf y=some n)(C:0<n)(u:Pm h 1 n y=some new)(E:new.length=n)(J:Bt.length=n):
 builtin TT .copy #[159,159] [.slice i hd.length n r op,y] h=some (I n,h.put i (.cells (hd++new) t)):=by
 have hu:TT.T8 159=some (.slice 5):=by kernel_rfl
 have hs:TT.size 5=some 1:=by kernel_rfl
 have hb:Nat.ble n n=true:=aR (aE _);have h0:Nat.beq n 0=false:=by cases n with|zero=>omega|succ n=>rfl
 have hw:My h i hd.length new=some (h.put i (.cells (hd++new) t)):=by
  unfold My;rw[g];simp only;rw[sc hd Bt new a_]
 rw[tX]at u;have o:lenOf (.slice i hd.length n r op)=some n:=rfl;unfold builtin;simp only[hu,hs,o,B,hb,Al,h0,Bk,u,hw];rfl
theorem Rd.chg{R q:Nat}{l:List Nat}{S:Nat->Prop}(d:Rd h R q off l)(hb:HB h)(c:Av S h h')(o:¬S q)(u:¬S R):Rd h' R q off l:=by
 obtain⟨s,g,e,f⟩:=d.Ph;exact⟨⟨s,c.at hb g u,e,fun y=>⟨(f y).1,(f y).2.frame (c.get _ ((f y).2.lt hb) o)⟩⟩,d.ne⟩
def Fr.zero:Fr:=⟨0,0,0,0,0,List.replicate 44 0⟩
theorem Fr.Jq:List.replicate 5 (EV.int .i64 0)++List.replicate 44 (EV.int .u8 0)=Fr.zero.cells:=by kernel_rfl
def mG(p:List Nat):Fr:=⟨Ps (p.take 1),Ps (((p.drop 1).drop 1).take 2),Ps ((((p.drop 1).drop 1).drop 2).take 2),Ps (((((p.drop 1).drop 1).drop 2).drop 2).take 4),Ps ((((((p.drop 1).drop 1).drop 2).drop 2).drop 4).take 6),(((((((p.drop 1).drop 1).drop 2).drop 2).drop 4).drop 6).take 44)⟩
def Tw(s:List Nat):Fr × Int:=
 if j8 s=false then(Fr.zero,11)else
 if Ps (((s.take 60).drop 1).take 1)=1/\iv (mG (s.take 60))=true then(mG (s.take 60),0)else(Fr.zero,10)
theorem ru:TT.size 153=some 49/\TT.agg 153=some true:=⟨by kernel_rfl,by kernel_rfl⟩
theorem W_ {p:List Nat}(hp:p.length=60)(hu:∀b∈p,b<256):(mG p).Wf:=by
 refine⟨?_,fun b hb=>hu b ?_⟩
 ·simp only[mG,bW,bA,hp];decide
 ·simp only[mG]at hb
  exact aH (aH (aH (aH (aH (aH (bV hb))))))
theorem Fr.Hh:Fr.zero.Wf:=⟨by simp[Fr.zero],fun b hb=>by rw[bO hb];decide⟩
theorem Bpp {s:List Nat}(o:s.length=64)(hu:∀b∈s,b<256):(Tw s).1.Wf:=by
 unfold Tw;split
 ·exact Fr.Hh
 ·split
  ·exact W_ (by rw[bW,o];decide) fun b hb=>hu b (bV hb)
  ·exact Fr.Hh
theorem Az7{s:List Nat}(hl:s.length=64)(hu:∀b∈s,b<256)(hb:HB h)(hK:10000<K):
 Ok (uI K Us (.agg (Be s)) h) fun v h'=>v=.tuple [.agg (Tw s).1.cells,I (Tw s).2]/\Ext h h':=by
 unfold Us;simp only[uI,Aa];rw[Fr.Jq];have x1:Ext h (((h.new (.cells Bf 68)).new (.cells (Be s) 29)).new (.cells Fr.zero.cells 153)):=((Av.new _ _).Db _).Db _;have g2:(((h.new (.cells Bf 68)).new (.cells (Be s) 29)).new (.cells Fr.zero.cells 153)).get h.next=some (.cells Bf 68):=by
  rw[Az _ (by show h.next<h.next+1+1;omega),Az _ (aN _)];exact Ad _ _
 have g3:(((h.new (.cells Bf 68)).new (.cells (Be s) 29)).new (.cells Fr.zero.cells 153)).get (h.next+1)=some (.cells (Be s) 29):=by
  rw[Az _ (by show h.next+1<h.next+1+1;omega)];exact Ad _ _
 have u:(((h.new (.cells Bf 68)).new (.cells (Be s) 29)).new (.cells Fr.zero.cells 153)).get (h.next+2)=some (.cells Fr.zero.cells 153):=Ad _ _;have n1:(((h.new (.cells Bf 68)).new (.cells (Be s) 29)).new (.cells Fr.zero.cells 153)).next=h.next+3:=rfl
 rw[show(h.new (.cells Bf 68)).next=h.next+1 from rfl,show((h.new (.cells Bf 68)).new (.cells (Be s) 29)).next=h.next+2 from rfl];generalize ((h.new (.cells Bf 68)).new (.cells (Be s) 29)).new (.cells Fr.zero.cells 153)=h1 at x1 g2 g3 u n1⊢;have a0:=x1.hb hb;have dp:=a0 _ _ g2;have zl:=Fr.Bh Fr.Hh;have fin:∀(f:Fr) (e:Int) (h5:Ab) (kk:Ab->R),(∀h',kk h'=J5 TT [.c (.ptr (h.next+2) 0) 153,.v (I e)] h')->HB h5->Ext h h5->h5.get (h.next+2)=some (.cells Fr.zero.cells 153)->f.Wf->(f,e)=Tw s ->
  Ok (hQ 49 (.ptr (h.next+2) 0) (.agg f.cells) h5 kk) fun v h'=>v=.tuple [.agg (Tw s).1.cells,I (Tw s).2]/\Ext h h':=by
  intro f e h5 kk dt ai x5 g5 wf he;have fl:=Fr.Bh wf;refine Ok.st f.cells g5 rfl (by show Gk f.cells=49;rw[Bg,fl]) (Bo (by rw[zl];exact fl.symm)) ?_;have g6:(h5.put (h.next+2) (.cells f.cells 153)).get (h.next+2)=some (.cells f.cells 153):=Ae _ _ _;rw[dt,Em g6 ru.1 ru.2 fl,<-he];exact .ret ⟨rfl,x5.Ar (.inr a_) (ai _ _ g5) _⟩
 simp only[Cq dp,As,Aa,Cz g2 rfl,Ak Qe];rw[show ∀k:EV->R,Ny 64 1 (.ptr (h.next+1) 0) none none none k=k (.slice (h.next+1) 0 64 64 false)from fun k=>rfl];have bs:Bs h1 (.slice (h.next+1) 0 s.length 64 false) (h.next+1) 0 s:=by
  refine⟨64,false,_,Be s,rfl,a_,g3,rfl,by rw[Bi];omega,?_⟩;rw[dE,<-Bi,bY]
 have ct:=Bp7 (K:=K) hK bs.lift (C8 a0) hu a_ a_;rw[hl]at ct;refine Ok.bE ct (fun _ _ p=>p.1) ?_;rintro v h2 h3 ⟨_,_,hv⟩ sm x3;have bf:=x3.hb a0;have u:=x3.at a0 u;have cv:=x1.trans x3;rcases hv with⟨ho,rfl⟩|⟨ho,y,q',rfl,ry,lq⟩
 ·simp only[Aa,I,Ac]
  simp only[show ¬((11:Int)=0) from c_,aQ,aC,Aa];rw[Ay (l:=Fr.zero.cells) rfl];exact fin Fr.zero 11 h3 _ (fun _=>rfl) bf cv u Fr.Hh (by unfold Tw;rw[aI ho])
 ·have dw:¬j8 s=false:=by rw[ho];simp
  simp only[Aa,I,Ac];simp only[aB,aA,Aa,MG];have dx:s.length-4=60:=a_
  rw[dx]at ry;have cw:(s.take 60).length=60:=by rw[bW,hl];decide
  have W:∀b∈s.take 60,b<256:=fun b hb=>hu b (bV hb)
  have cx:Ce h3 y q' 5 1 (s.take 60).length (Be (s.take 60)):=ry.frame fun _=>sm.get _
  have aj:Tw s=if Ps (((s.take 60).drop 1).take 1)=1/\iv (mG (s.take 60))=true then(mG (s.take 60),0)else(Fr.zero,10):=by unfold Tw;rw[aG dw]
  have O:=W_ cw W;rw[aj]at fin⊢;unfold mG at fin aj O⊢;generalize s.take 60=p at cx cw W fin aj O⊢;refine(v_ (K:=K) (cx.bs a_) bf).Am ?_;rintro _ h5 ⟨Rr,q,rfl,d0,x5,ai,eM⟩;have u:=x5.at bf u;have dy:=cv.trans x5;have eN:Rr<h5.next:=by obtain⟨_,g,_⟩:=d0.Ph;exact ai _ _ g
  have eP:h.next+2<Rr:=by have:=d0.ne;have:=x3.next;omega
  have up:∀{X hc:Ab},Ext h X->Av (fun i=>i=Rr) X hc->Ext h hc:=fun x c=>x.then c fun j hj dA=>by
   have hj:j=Rr:=hj;omega
  have F1:∀{X hc:Ab} {i:Nat} {o:D5},Av (fun i=>i=Rr) X hc->HB X->X.get i=some o->i≠Rr->hc.get i=some o:=fun c hb g hi=>c.at hb g hi
  refine(Ln (K:=K) (w:=1) d0 ai a_ c_ c_ a_ W).Am ?_;rintro _ h6 ⟨rfl,d1,c6,bj⟩;have u:=F1 c6 ai u a_;have x6:=up dy c6;rw[Ay (l:=(⟨Ps (p.take 1),0,0,0,0,List.replicate 44 0⟩:Fr).cells) rfl]
  try simp only[Aa]
  rw[Fr.Jq];have x7:Ext h6 (h6.new (.cells Fr.zero.cells 153)):=Av.new _ _;have B:(h6.new (.cells Fr.zero.cells 153)).get h6.next=some (.cells Fr.zero.cells 153):=Ad _ _
  have n7:(h6.new (.cells Fr.zero.cells 153)).next=h6.next+1:=rfl
  have u:=x7.at bj u;have a2:=x7.hb bj;have d1:=d1.ext bj x7;have cz:=x6.trans x7;have hF:Rr<h6.next:=by have:=c6.next;omega
  generalize h6.new (.cells Fr.zero.cells 153)=h7 at x7 B n7 u a2 d1 cz⊢;generalize h6.next=E at B n7 hF⊢
  refine Ok.st (⟨Ps (p.take 1),0,0,0,0,List.replicate 44 0⟩:Fr).cells B rfl (by kernel_rfl) (Bo (by kernel_rfl)) ?_;have lF:=a2 _ _ B;have B:(h7.put E (.cells (⟨Ps (p.take 1),0,0,0,0,List.replicate 44 0⟩:Fr).cells 153)).get E=some (.cells (⟨Ps (p.take 1),0,0,0,0,List.replicate 44 0⟩:Fr).cells 153):=Ae _ _ _;have u:(h7.put E (.cells (⟨Ps (p.take 1),0,0,0,0,List.replicate 44 0⟩:Fr).cells 153)).get (h.next+2)=some (.cells Fr.zero.cells 153):=by rw[Af _];exact u
  have d1:Rd (h7.put E (.cells (⟨Ps (p.take 1),0,0,0,0,List.replicate 44 0⟩:Fr).cells 153)) Rr q (0+1) (p.drop 1):=by
   have c:Av (fun i=>i=E) h7 (h7.put E (.cells (⟨Ps (p.take 1),0,0,0,0,List.replicate 44 0⟩:Fr).cells 153)):=(Av.refl (S:=fun i=>i=E) h7).Ar (.inl rfl) lF _;exact d1.chg a2 c (by have:=d1.ne;intro y;omega) (by intro y;omega)
  have x8:Ext h (h7.put E (.cells (⟨Ps (p.take 1),0,0,0,0,List.replicate 44 0⟩:Fr).cells 153)):=cz.Ar (.inr a_) lF _;have a3:=a2.put lF (.cells (⟨Ps (p.take 1),0,0,0,0,List.replicate 44 0⟩:Fr).cells 153);generalize h7.put E (.cells (⟨Ps (p.take 1),0,0,0,0,List.replicate 44 0⟩:Fr).cells 153)=h8 at B u d1 x8 a3⊢;refine(Ln (K:=K) (w:=1) d1 a3 a_ c_ c_ (by simp only[bA];omega) (fun b hb=>W b (by revert hb;exact fun y=>aH y))).Am ?_;rintro _ h9 ⟨rfl,d2,c9,bn⟩;have u:=F1 c9 a3 u a_;have B:=F1 c9 a3 B a_;have x9:=up x8 c9;refine(Ln (K:=K) (w:=2) d2 bn a_ c_ c_ (by simp only[bA];omega) (fun b hb=>W b (aH (aH hb)))).Am ?_;rintro _ eX ⟨rfl,d3,bp,al⟩;have u:=F1 bp bn u a_;have B:=F1 bp bn B a_;have eb:=up x9 bp;refine(Ln (K:=K) (w:=2) d3 al a_ c_ c_ (by simp only[bA];omega) (fun b hb=>W b (aH (aH (aH hb))))).Am ?_;rintro _ eY ⟨rfl,d4,bq,ao⟩;have u:=F1 bq al u a_;have B:=F1 bq al B a_;have ec:=up eb bq;refine(Ln (K:=K) (w:=4) d4 ao a_ c_ c_ (by simp only[bA];omega) (fun b hb=>W b (aH (aH (aH (aH hb)))))).Am ?_;rintro _ eZ ⟨rfl,d5,bt,aq⟩;have u:=F1 bt ao u a_;have B:=F1 bt ao B a_;have ed:=up ec bt;refine(Ln (K:=K) (w:=6) d5 aq a_ c_ c_ (by simp only[bA];omega) (fun b hb=>W b (aH (aH (aH (aH (aH hb))))))).Am ?_;rintro _ fa ⟨rfl,d6,bu,au⟩;have u:=F1 bu aq u a_;have B:=F1 bu aq B a_;have cA:=up ed bu;have aw:∀{X hc:Ab},Ext h X->Av (fun i=>i=E) X hc->Ext h hc:=fun x c=>x.then c fun j hj dA=>by
   have hj:j=E:=hj;omega
  have J:∀{X hc:Ab} {i:Nat} {o:D5},Av (fun i=>i=E) X hc->HB X->X.get i=some o->i≠E->hc.get i=some o:=fun c hb g hi=>c.at hb g hi
  have L:∀{X hc:Ab} {off:Nat} {l:List Nat},Av (fun i=>i=E) X hc->HB X->Rd X Rr q off l->Rd hc Rr q off l:=fun c hb d=>d.chg hb c (by have:=d.ne;intro y;omega) (by intro y;omega)
  have hz:(⟨Ps (p.take 1),0,0,0,0,List.replicate 44 0⟩:Fr).cells.length=49:=by kernel_rfl
  refine Ok.kP B au rfl rfl (by rw[hz];decide) ?_;intro fc B bw ax;have u:=J bw au u a_;have d6:=L bw au d6;have ee:=aw cA bw
  try simp only[Aa]
  refine Ok.kP B ax rfl rfl (by rw[bM,hz];decide) ?_;intro fe B bx ay;have u:=J bx ax u a_;have d6:=L bx ax d6;have cB:=aw ee bx
  try simp only[Aa]
  refine Ok.kP B ay rfl rfl (by rw[bM,bM,hz];decide) ?_;intro ff B bz az;have u:=J bz ay u a_;have d6:=L bz ay d6;have ef:=aw cB bz
  try simp only[Aa]
  refine Ok.kP B az rfl rfl (by rw[bM,bM,bM,hz];decide) ?_;intro cG B b5 ad;have u:=J b5 az u a_;have d6:=L b5 az d6;have cT:=aw ef b5
  try simp only[Aa]
  have B:cG.get E=some (.cells ([Nk .i64 (Ps (p.take 1)),Nk .i64 (Ps (((p.drop 1).drop 1).take 2)),Nk .i64 (Ps ((((p.drop 1).drop 1).drop 2).take 2)),Nk .i64 (Ps (((((p.drop 1).drop 1).drop 2).drop 2).take 4)),Nk .i64 (Ps ((((((p.drop 1).drop 1).drop 2).drop 2).drop 4).take 6))]++Be (List.replicate 44 0)) 153):=B;rw[show ∀k:EV->R,Ny 44 1 (.ptr E 5) none none none k=k (.slice E 5 44 44 false)from fun k=>rfl];have C:((((((p.drop 1).drop 1).drop 2).drop 2).drop 4).drop 6).length=44:=by simp only[bA];omega
  have dl:Rd cG.lift Rr q (0+1+1+2+2+4+6) ((((((p.drop 1).drop 1).drop 2).drop 2).drop 4).drop 6):=d6.chg ad (S:=fun _=>False) ⟨fun i _ _=>Bx _ _,aE _,fun w _ w2 _=>w2,fun y=>C8 y⟩ id id;refine Ok.bC (S:=fun i=>i=Rr) (WZ (K:=K) (n:=44) dl (C8 ad) c_) (fun _ _ p=>p.2.2.1) ?_;rintro b6 eB Y s' ⟨ah,d7,_,b8⟩ ae ca cc;have af:=ae.hb b8;have ah:Bs Y b6 q (0+1+1+2+2+4+6) (((((((p.drop 1).drop 1).drop 2).drop 2).drop 4).drop 6).take 44):=ah.frame (ae.get _);have d7:Rd Y Rr q (0+1+1+2+2+4+6+44) (((((((p.drop 1).drop 1).drop 2).drop 2).drop 4).drop 6).drop 44):=by
   obtain⟨s0,g,e,f⟩:=d7.Ph;exact⟨⟨s0,by rw[ae.get];exact g,e,fun y=>⟨(f y).1,(f y).2.frame (ae.get _)⟩⟩,d7.ne⟩
  have u:=F1 ca ad u a_;have B:=F1 ca ad B a_;have eg:=up cT ca;generalize fg:(((((p.drop 1).drop 1).drop 2).drop 2).drop 4).drop 6=body at ah d7 C fin O⊢;generalize hq:Ps ((p.drop 1).take 1)=a4 at fin⊢;generalize Ps (p.take 1)=na at B fin O⊢;generalize Ps (((p.drop 1).drop 1).take 2)=nz at B fin O⊢;generalize Ps ((((p.drop 1).drop 1).drop 2).take 2)=no at B fin O⊢;generalize Ps (((((p.drop 1).drop 1).drop 2).drop 2).take 4)=ne at B fin O⊢;generalize Ps ((((((p.drop 1).drop 1).drop 2).drop 2).drop 4).take 6)=ns at B fin O⊢;have ei:body.take 44=body:=bS a_;rw[ei]at ah fin O⊢;have ej:body.drop 44 = []:=List.drop_eq_nil_of_le a_;rw[ej]at d7;have hlen:lenOf b6=some 44:=by have:=ah.len;rw[C]at this;exact this
  have c5:Pm Y.lift 1 44 b6=some (Be body):=by have:=ah.lift.cells;rw[C]at this;exact this
  have ek:=AM (h:=Y.lift) (i:=E) (n:=44) (r:=44) (op:=false) (t:=153) (hd:=[Nk .i64 na,Nk .i64 nz,Nk .i64 no,Nk .i64 ne,Nk .i64 ns]) (Bt:=Be (List.replicate 44 0)) (by rw[Bx];exact B) hlen c_ c5 (by rw[Bi,C]) (by rw[Bi,bR]);have c7:=af _ _ B;refine Ok.rP (S:=fun i=>i=E) (by rcases cc with rfl|⟨w,rfl,_⟩<;>kernel_rfl) (by rcases cc with rfl|⟨w,rfl,_⟩<;>kernel_rfl) (fun w=>by rcases cc with rfl|⟨w,rfl,_⟩<;>kernel_rfl) (P:=fun v h'=>h'=Y.lift.put E (.cells ([Nk .i64 na,Nk .i64 nz,Nk .i64 no,Nk .i64 ne,Nk .i64 ns]++Be body) 153)) ⟨_,_,ek,rfl⟩ (fun _ _ p=>by rw[p];exact(Av.refl (S:=fun i=>i=E) Y.lift).Ar (.inl rfl) (show E<Y.lift.next from c7) _) ?_;rintro fh eE cf s2 rfl c8 a5 _;have U:=a5.hb af;have B:cf.get E=some (.cells ([Nk .i64 na,Nk .i64 nz,Nk .i64 no,Nk .i64 ne,Nk .i64 ns]++Be body) 153):=by rw[c8.get];exact Ae _ _ _
  have u:=J a5 af u a_;have d7:=L a5 af d7;have da:=aw eg a5;simp only[Ac];have cl:([Nk .i64 na,Nk .i64 nz,Nk .i64 no,Nk .i64 ne,Nk .i64 ns]++Be body).length=49:=by rw[aF,Bi,C];rfl
  have bad:∀aa:Ab,Ext cf aa->¬(a4=1/\iv ⟨na,nz,no,ne,ns,body⟩=true)->∀w:EV,Ok (Vo K (.ptr (h.next+2) 0) (.ptr E 0) (.bool true) w aa) _:=fun aa T en w=>by
   simp only[Vo,Aa];rw[Ay (l:=Fr.zero.cells) rfl];exact fin Fr.zero 10 aa _ (fun _=>rfl) (T.hb U) (da.trans T) (T.at U u) Fr.Hh (by rw[aG en])
  by_cases hv:a4=1
  ·rw[show decide (¬Int.ofNat a4=1)=false from aL (by rw[hv];exact fun y=>y rfl)]
   simp only[Aa];rw[Cz B rfl,Ak cl];simp only[Hf];refine(AL (K:=K) ⟨na,nz,no,ne,ns,body⟩).Am ?_;rintro _ aa ⟨rfl,T⟩;generalize iv ⟨na,nz,no,ne,ns,body⟩=fb at fin bad⊢;cases fb with
   | false=>
    simp only[Aa,Vr,Ac];exact bad aa T (by simp) _
   | true=>
    have db:=T.hb U;simp only[Aa,Vr,Ac,Bok (d7.ext U T),I];simp only[Vo,Aa,aB,aA,MF];rw[Cz (T.at U B) rfl,Ak cl];simp only[Hf];have r:=fin ⟨na,nz,no,ne,ns,body⟩ 0 aa (fun z=>J5 TT [RV.c (EV.ptr (h.next+2) 0) 153,RV.v (EV.int IntKind.i64 0)] z) (fun _=>rfl) db (da.trans T) (T.at U u) O (by rw[aI ⟨hv,rfl⟩]);simp only[eq_self]at r;exact r
  ·rw[show decide (¬Int.ofNat a4=1)=true from aO fun y=>hv (Int.ofNat.inj y)]
   simp only[Aa,Vr,Ac];exact bad cf (Av.refl _) (fun y=>hv y.1) _
def iD(s:List Nat)(Ai off:Int):Fr × Int:=
 if ¬(Tw s).2=0 then(Fr.zero,(Tw s).2)else if ¬(Tw s).1.Ai=Ai\/¬(Tw s).1.off=off then(Fr.zero,12)else((Tw s).1,0)
theorem U_{s:List Nat}(hl:s.length=64)(hu:∀b∈s,b<256)(hb:HB h)(hK:10000<K)(Ai off:Int):
 Ok (sK K Us (.agg (Be s)) (I Ai) (I off) h) fun v h'=>v=.tuple [.agg (iD s Ai off).1.cells,I (iD s Ai off).2]/\(iD s Ai off).1.Wf/\Ext h h':=by
 unfold Us;simp only[sK,Aa];rw[Fr.Jq];have x1:Ext h (((h.new (.cells Bf 68)).new (.cells (Be s) 29)).new (.cells Fr.zero.cells 153)):=((Av.new _ _).Db _).Db _;have g2:(((h.new (.cells Bf 68)).new (.cells (Be s) 29)).new (.cells Fr.zero.cells 153)).get h.next=some (.cells Bf 68):=by
  rw[Az _ (by show h.next<h.next+1+1;omega),Az _ (aN _)];exact Ad _ _
 have g3:(((h.new (.cells Bf 68)).new (.cells (Be s) 29)).new (.cells Fr.zero.cells 153)).get (h.next+1)=some (.cells (Be s) 29):=by
  rw[Az _ (by show h.next+1<h.next+1+1;omega)];exact Ad _ _
 have o:(((h.new (.cells Bf 68)).new (.cells (Be s) 29)).new (.cells Fr.zero.cells 153)).get (h.next+2)=some (.cells Fr.zero.cells 153):=Ad _ _;have n1:(((h.new (.cells Bf 68)).new (.cells (Be s) 29)).new (.cells Fr.zero.cells 153)).next=h.next+3:=rfl
 rw[show(h.new (.cells Bf 68)).next=h.next+1 from rfl,show((h.new (.cells Bf 68)).new (.cells (Be s) 29)).next=h.next+2 from rfl];generalize ((h.new (.cells Bf 68)).new (.cells (Be s) 29)).new (.cells Fr.zero.cells 153)=h1 at x1 g2 g3 o n1⊢;have C:=x1.hb hb;have zl:=Fr.Bh Fr.Hh;have E:=Bpp hl hu;have fin:∀(f:Fr) (e:Int) (L:Ab) (kk:Ab->R),(∀h',kk h'=J5 TT [.c (.ptr (h.next+2) 0) 153,.v (I e)] h')->HB L->Ext h L->L.get (h.next+2)=some (.cells Fr.zero.cells 153)->f.Wf->(f,e)=iD s Ai off ->
  Ok (hQ 49 (.ptr (h.next+2) 0) (.agg f.cells) L kk) fun v h'=>v=.tuple [.agg (iD s Ai off).1.cells,I (iD s Ai off).2]/\(iD s Ai off).1.Wf/\Ext h h':=by
  intro f e L kk ae af x5 g5 wf he;have fl:=Fr.Bh wf;refine Ok.st f.cells g5 rfl (by show Gk f.cells=49;rw[Bg,fl]) (Bo (by rw[zl];exact fl.symm)) ?_;have g6:(L.put (h.next+2) (.cells f.cells 153)).get (h.next+2)=some (.cells f.cells 153):=Ae _ _ _;rw[ae,Em g6 ru.1 ru.2 fl,<-he];exact .ret ⟨rfl,wf,x5.Ar (.inr a_) (af _ _ g5) _⟩
 have u64:(Be s).length=64:=by rw[Bi,hl]
 rw[Cz g2 rfl,Ak Qe];simp only[Hf];rw[Cz g3 rfl,Ak u64];simp only[Hf];refine(Az7 (K:=K) hl hu C hK).Am ?_;rintro _ h2 ⟨rfl,X⟩;have O:=X.hb C;have o:=X.at C o;have ag:=x1.trans X;simp only[Aa];have Y:Ext h2 (h2.new (.cells Fr.zero.cells 153)):=Av.new _ _;have B:(h2.new (.cells Fr.zero.cells 153)).get h2.next=some (.cells Fr.zero.cells 153):=Ad _ _
 have o:=Y.at O o;have J:=Y.hb O;have T:=ag.trans Y;have n2:h.next+3<=h2.next:=by have:=X.next;omega
 generalize h2.new (.cells Fr.zero.cells 153)=h3 at Y B o J T⊢;generalize h2.next=U at B n2⊢
 have dl:=Fr.Bh E;refine Ok.st (Tw s).1.cells B rfl (by show Gk (Tw s).1.cells=49;rw[Bg,dl]) (Bo (by rw[zl];exact dl.symm)) ?_;have lF:=J _ _ B;have B:(h3.put U (.cells (Tw s).1.cells 153)).get U=some (.cells (Tw s).1.cells 153):=Ae _ _ _;have o:(h3.put U (.cells (Tw s).1.cells 153)).get (h.next+2)=some (.cells Fr.zero.cells 153):=by rw[Af _];exact o
 have W:Ext h (h3.put U (.cells (Tw s).1.cells 153)):=T.Ar (.inr a_) lF _;have u:=J.put lF (.cells (Tw s).1.cells 153);have e0:EV.cells (EV.agg (Tw s).1.cells)=(Tw s).1.cells:=rfl;generalize h3.put U (.cells (Tw s).1.cells 153)=h4 at B o W u⊢;unfold iD at fin⊢;generalize (Tw s).2=e at fin⊢;generalize (Tw s).1=f at fin E dl B⊢;simp only[I,Ac];by_cases he:e=0
 ·subst he
  simp only[aB,aA,Aa,MO,Cy B rfl,ak]at fin⊢;have l1:f.cells[1]? = some (I f.Ai):=rfl;have l2:f.cells[2]? = some (I f.off):=rfl;rw[l1];simp only[Hf,I,Ac];by_cases hz:f.Ai=Ai
  ·simp only[hz,aB,aA,Aa,Cy B rfl,false_or]at fin⊢
   rw[l2];simp only[Hf,I,Ac];by_cases ho:f.off=off
   ·simp only[ho,aB,aA,Aa,uL,ak,MN]at fin⊢
    rw[Cz B rfl,Ak dl];exact fin f 0 h4 _ (fun _=>rfl) u W o E rfl
   ·simp only[ho,aQ,aC,Aa,uL,bK]at fin⊢
    rw[Ay (l:=Fr.zero.cells) rfl];exact fin Fr.zero 12 h4 _ (fun _=>rfl) u W o Fr.Hh rfl
  ·simp only[hz,aQ,aC,Aa,true_or,bK,uL]at fin⊢
   rw[Ay (l:=Fr.zero.cells) rfl];exact fin Fr.zero 12 h4 _ (fun _=>rfl) u W o Fr.Hh rfl
 ·simp only[he,aQ,aC,Aa,bK]at fin⊢
  rw[Ay (l:=Fr.zero.cells) rfl];exact fin Fr.zero e h4 _ (fun _=>rfl) u W o Fr.Hh rfl
structure En where
 kind:Int
 first:Int
 count:Int
 block:Int
 many:Int
 Aw:Int
 bytes:List Nat
def En.cells(e:En):List EV:=[I e.kind,I e.first,I e.count,I e.block,I e.many,I e.Aw]++Be e.bytes
structure En.Wf(e:En):Prop where
 len:e.bytes.length=32
 u8:∀b∈e.bytes,b<256
theorem En.Bh {e:En}(w:e.Wf):e.cells.length=38:=by
 unfold En.cells;rw[aF,Bi,w.len];rfl
theorem Bjv(a b:Nat):jX (Nk .u8 a) (Nk .u8 b)=some (decide (a=b)):=by
 show Bc (Nat.beq (Pq .u8) (Pq .u8)) (some (iV (Int.ofNat a) (Int.ofNat b))) none=_;rw[cL,Al,mc];exact congrArg some (eJ.2 ⟨Int.ofNat.inj,congrArg _⟩)
theorem AN:∀(a b:List Nat),a.length=b.length->Fa (Be a) (Be b)=some (decide (a=b))
 | [],[],_=>rfl
 | x::a,y::b,h=>by
  have ih:=AN a b (by simpa using h);show(match jX (Nk .u8 x) (Nk .u8 y)with|some true=>Fa (Be a) (Be b)|some false=>(match Fa (Be a) (Be b)with|some _=>some false|none=>none)|none=>none)=_;rw[Bjv,ih];by_cases o:x=y
  ·rw[aO o]
   subst o;simp
  ·rw[aL o]
   simp[o]
theorem AO:∀(a:List Nat),shaped (List.replicate a.length 0) (Be a)=true
 | []=>rfl
 | x::a=>by
  show Bc (Nat.beq 0 0) (shaped (List.replicate a.length 0) (Be a)) false=true;rw[AO a];rfl
theorem Bg0(o:TT.eqs t=some (List.replicate n 0)){a b:List Nat}(u:a.length=n)(hb:b.length=n)(k:EV->R):K3 iT (bin TT .eql t) (.agg (Be a)) (.agg (Be b)) k=k (.bool (decide (a=b))):=by
 have e:bin TT .eql t (.agg (Be a)) (.agg (Be b))=some (.bool (decide (a=b))):=by
  show(match jN TT t (.agg (Be a)) (.agg (Be b))with|some b=>some (EV.bool b)|none=>none)=_;have:jN TT t (.agg (Be a)) (.agg (Be b))=some (decide (a=b)):=by
   show(match TT.eqs t with|some sh=>Bc (shaped sh (Be a)) (Fa (Be a) (Be b)) none|none=>none)=_;rw[o];simp only;rw[show List.replicate n 0=List.replicate a.length 0 by rw[u],AO,Al,AN a b a_]
  rw[this]
 show oB k (bin TT .eql t (.agg (Be a)) (.agg (Be b)))=_;rw[e];rfl
theorem Bhg(o:TT.eqs t=some (List.replicate n 0)){a b:List Nat}(u:a.length=n)(hb:b.length=n)(k:EV->R):K3 i_ (bin TT .neq t) (.agg (Be a)) (.agg (Be b)) k=k (.bool (decide (¬a=b))):=by
 have e:bin TT .neq t (.agg (Be a)) (.agg (Be b))=some (.bool (decide (¬a=b))):=by
  show(match jN TT t (.agg (Be a)) (.agg (Be b))with|some b=>some (EV.bool (Bc b false true))|none=>none)=_;have:jN TT t (.agg (Be a)) (.agg (Be b))=some (decide (a=b)):=by
   show(match TT.eqs t with|some sh=>Bc (shaped sh (Be a)) (Fa (Be a) (Be b)) none|none=>none)=_;rw[o];simp only;rw[show List.replicate n 0=List.replicate a.length 0 by rw[u],AO,Al,AN a b a_]
  rw[this];by_cases h:a=b
  ·simp[h,Bc]
  ·simp[h,Bc]
 show oB k (bin TT .neq t (.agg (Be a)) (.agg (Be b)))=_;rw[e];rfl
theorem Bt1:TT.eqs 51=some (List.replicate 32 0):=by kernel_rfl
theorem Bsi:TT.eqs 151=some (List.replicate 44 0):=by kernel_rfl
theorem Qw(n a b:Int)(h:Ab):Qn K (.int .i64 n) (.int .i64 a) (.int .i64 b) h=some (.bool (wi n a b),h):=by
 simp only[Qn,Ac,Aa];by_cases o:a<=n
 ·simp only[o,aC,Aa,Ac,xQ,wi,bF]
 ·simp only[o,aA,Aa,xQ,wi,bB]
def Dt:List Nat:=List.replicate 32 0
def qY(e:En):Bool:=
 if e.kind=1 then wi e.count 1 4&&decide (e.many=0)else
 if e.kind=2 then(decide (e.count=1)&&wi e.many 1 (256-e.block))&&decide (e.bytes=Dt)else
 if e.kind=3 then decide (e.count=1)&&decide (e.many=0)else false
theorem K4:List.replicate 32 (EV.int .u8 0)=Be Dt:=by kernel_rfl
theorem Az1{e:En}(w:e.Wf)(B:wi e.block 0 255=true):Ok (Ql K (.agg e.cells) h) fun v h'=>v=.bool (qY e)/\Ext h h':=by
 obtain⟨b0,b1⟩:=Fk.1 B;simp only[Ql,Aa];obtain⟨X,T,o,u,_⟩:=nW h (.cells e.cells 141);rw[T];have l0:e.cells[0]? = some (I e.kind):=rfl;have C:e.cells[2]? = some (I e.count):=rfl;have U:e.cells[3]? = some (I e.block):=rfl;have E:e.cells[4]? = some (I e.many):=rfl;have W:Ou e.cells 6 32=some (Be e.bytes):=by
  rw[F9 (by rw[En.Bh w];decide)];show some (List.take 32 (Be e.bytes))=_;rw[bS (by rw[Bi,w.len];decide)]
 simp only[Cy u rfl,Aa,l0,I,Ac];unfold qY;by_cases J:e.kind=1
 ·simp only[J,aC,Aa,Cy u rfl,C,I,Qw,Ac,bK]
  cases wi e.count 1 4 with
  | false=>simp only[Aa,Ro,Ac];exact .ret ⟨rfl,o⟩
  | true=>
   simp only[Aa,Cy u rfl,E,I,Ac,Ro,bF];exact .ret ⟨rfl,o⟩
 ·simp only[J,aA,Aa,ak,Ac]
  by_cases L:e.kind=2
  ·simp only[L,aC,Aa,Cy u rfl,C,I,Ac,bK]
   by_cases c1:e.count=1
   ·simp only[c1,aC,Aa,Cy u rfl,E,U,I,Ac,bF]
    rw[Ch,Qw];simp only[Aa,Rp];cases wi e.many 1 (256-e.block)with
    | false=>simp only[Aa,Mx,Ac,bB];exact .ret ⟨rfl,o⟩
    | true=>
     simp only[Aa,Ac,Cz u rfl,W];rw[Ay (l:=Be Dt) (by rw[K4];rfl),Bg0 Bt1 w.len (by rfl)];simp only[Mx,Aa,bF];exact .ret ⟨rfl,o⟩
   ·simp only[c1,aA,Aa,Ac,Rp,Mx,bB]
    exact .ret ⟨rfl,o⟩
  ·simp only[L,aA,Aa,ak,Ac]
   by_cases O:e.kind=3
   ·simp only[O,aC,Aa,Cy u rfl,C,I,Ac,bK]
    by_cases c1:e.count=1
    ·simp only[c1,aC,Aa,Cy u rfl,E,I,Ac,Rq,bF]
     exact .ret ⟨rfl,o⟩
    ·simp only[c1,aA,Aa,Ac,Rq,bB]
     exact .ret ⟨rfl,o⟩
   ·simp only[O,aA,Aa,ak,Zf]
    exact .ret ⟨rfl,o⟩
def jg(e:En):Bool:=wi e.first 0 281474976710655&&(wi e.block 0 255&&(wi e.Aw 0 65535&&qY e))
theorem A0y{e:En}(w:e.Wf):Ok (Ry K (.agg e.cells) h) fun v h'=>v=.bool (jg e)/\Ext h h':=by
 simp only[Ry,Aa];obtain⟨O,C,o,u,_⟩:=nW h (.cells e.cells 141);rw[C];have l1:e.cells[1]? = some (I e.first):=rfl;have E:e.cells[3]? = some (I e.block):=rfl;have J:e.cells[5]? = some (I e.Aw):=rfl;simp only[Cy u rfl,Aa,l1,I,Qw,Ac];unfold jg;cases wi e.first 0 281474976710655 with
 | false=>simp only[Aa,Ac,Ss,Ns,Km];exact .ret ⟨rfl,o⟩
 | true=>
 simp only[Aa,Ac,Cy u rfl,E,I,Qw,Ss,bF];cases B:wi e.block 0 255 with
 | false=>simp only[Aa,Ac,Ns,Km];exact .ret ⟨rfl,o⟩
 | true=>
 simp only[Aa,Ac,Cy u rfl,J,I,Qw,Ns,bF];cases wi e.Aw 0 65535 with
 | false=>simp only[Aa,Ac,Km];exact .ret ⟨rfl,o⟩
 | true=>
 simp only[Aa,Ac,bF];rw[Cz u rfl,Ak (En.Bh w)];simp only[Hf];refine(Az1 (K:=K) w B).Am ?_;rintro _ h2 ⟨rfl,L⟩;simp only[Km,Aa];exact .ret ⟨rfl,o.trans L⟩
variable {e:En}
def Yi(e:En):List Nat:=Pc 6 e.first.toNat++Pc 1 e.count.toNat++Pc 1 e.block.toNat++Pc 2 e.many.toNat++Pc 2 e.Aw.toNat++e.bytes
def We:List Nat:=List.replicate 44 0
theorem AP:List.replicate 44 (EV.int .u8 0)=Be We:=by kernel_rfl
def Ea(e:En):List Nat × Int:=if jg e=true then(Yi e,0)else(We,10)
theorem XA(w:e.Wf):(Yi e).length=44:=by
 unfold Yi;simp only[aF,De,w.len]
theorem Bk2(w:e.Wf):∀b∈Yi e,b<256:=fun b hb=>by
 unfold Yi at hb;simp only[bN]at hb;rcases hb with((((hb|hb)|hb)|hb)|hb)|hb
 ·exact I6 _ _ b hb
 ·exact I6 _ _ b hb
 ·exact I6 _ _ b hb
 ·exact I6 _ _ b hb
 ·exact I6 _ _ b hb
 ·exact w.u8 b hb
theorem tQ(w:e.Wf):(Ea e).1.length=44:=by
 unfold Ea;split
 ·exact XA w
 ·rfl
theorem XB(w:e.Wf):∀b∈(Ea e).1,b<256:=by
 unfold Ea;split
 ·exact Bk2 w
 ·intro b hb;rw[bO hb];decide
theorem p_:TT.size 151=some 44/\TT.agg 151=some true:=⟨by kernel_rfl,by kernel_rfl⟩
theorem AQ(u:jg e=true):(0<=e.first/\e.first<=281474976710655)/\(0<=e.block/\e.block<=255)/\(0<=e.Aw/\e.Aw<=65535)/\(1<=e.count/\e.count<=4)/\(0<=e.many/\e.many<=256)/\(1<=e.kind/\e.kind<=3):=by
 unfold jg at u;simp only[aV]at u;obtain⟨B,C,E,o⟩:=u;have a:=Fk.1 B;have b:=Fk.1 C;have c:=Fk.1 E;refine⟨a,b,c,?_⟩;unfold qY at o;split at o
 ·simp only[aV,aS]at o
  have:=Fk.1 o.1;omega
 ·split at o
  ·simp only[aV,aS]at o
   have:=Fk.1 o.1.2;omega
  ·split at o
   ·simp only[aV,aS]at o
    omega
   ·cases o
theorem XC(w:e.Wf)(hb:HB h)(hK:10000<K):
 Ok (Po K (.agg e.cells) h) fun v h'=>v=.tuple [.agg (Be (Ea e).1),I (Ea e).2]/\Ext h h':=by
 have l1:e.cells[1]? = some (I e.first):=rfl;have l2:e.cells[2]? = some (I e.count):=rfl;have l3:e.cells[3]? = some (I e.block):=rfl;have l4:e.cells[4]? = some (I e.many):=rfl;have l5:e.cells[5]? = some (I e.Aw):=rfl;have ao:=En.Bh w;simp only[Po,Aa];rw[AP];have x1:Ext h (((h.new (.cells e.cells 141)).new (.cells (Be We) 151)).new (.cells (Be We) 151)):=((Av.new _ _).Db _).Db _;have C:(((h.new (.cells e.cells 141)).new (.cells (Be We) 151)).new (.cells (Be We) 151)).get h.next=some (.cells e.cells 141):=by
  rw[Az _ (by show h.next<h.next+1+1;omega),Az _ (aN _)];exact Ad _ _
 have B:(((h.new (.cells e.cells 141)).new (.cells (Be We) 151)).new (.cells (Be We) 151)).get (h.next+1)=some (.cells (Be We) 151):=by
  rw[Az _ (by show h.next+1<h.next+1+1;omega)];exact Ad _ _
 have u:(((h.new (.cells e.cells 141)).new (.cells (Be We) 151)).new (.cells (Be We) 151)).get (h.next+2)=some (.cells (Be We) 151):=Ad _ _;have n1:(((h.new (.cells e.cells 141)).new (.cells (Be We) 151)).new (.cells (Be We) 151)).next=h.next+3:=rfl
 rw[show(h.new (.cells e.cells 141)).next=h.next+1 from rfl,show((h.new (.cells e.cells 141)).new (.cells (Be We) 151)).next=h.next+2 from rfl];generalize ((h.new (.cells e.cells 141)).new (.cells (Be We) 151)).new (.cells (Be We) 151)=h1 at x1 C B u n1⊢;have X:=x1.hb hb;have zl:(Be We).length=44:=by rw[Bi];rfl
 have fin:∀(l:List Nat) (er:Int) (h5:Ab) (kk:Ab->R),(∀h',kk h'=J5 TT [.c (.ptr (h.next+1) 0) 151,.v (I er)] h')->HB h5->Ext h h5->h5.get (h.next+1)=some (.cells (Be We) 151)->l.length=44->(l,er)=Ea e ->
  Ok (hQ 44 (.ptr (h.next+1) 0) (.agg (Be l)) h5 kk) fun v h'=>v=.tuple [.agg (Be (Ea e).1),I (Ea e).2]/\Ext h h':=by
  intro l er h5 kk a9 J x5 g5 hl he;have fl:(Be l).length=44:=by rw[Bi,hl]
  refine Ok.st (Be l) g5 rfl (by show Gk (Be l)=44;rw[Bg,fl]) (Bo (by rw[zl];exact fl.symm)) ?_;have g6:(h5.put (h.next+1) (.cells (Be l) 151)).get (h.next+1)=some (.cells (Be l) 151):=Ae _ _ _;rw[a9,Em g6 p_.1 p_.2 fl,<-he];exact .ret ⟨rfl,x5.Ar (.inr a_) (J _ _ g5) _⟩
 rw[Cz C rfl,Ak ao];simp only[Hf];refine(A0y (K:=K) w).Am ?_;rintro _ h2 ⟨rfl,x2⟩;have O:=x2.hb X;have aq:=x1.trans x2;have C:=x2.at X C;have B:=x2.at X B;have u:=x2.at X u;have n2:h.next+3<=h2.next:=by have:=x2.next;omega
 unfold Ea at fin⊢;cases hr:jg e with
 | false=>
  rw[hr]at fin;simp only[Aa,aX,ak]at fin⊢;rw[Cz u rfl,Ak zl];simp only[Hf];exact fin We 10 h2 _ (fun _=>rfl) O aq B rfl rfl
 | true=>
 rw[hr]at fin;simp only[Aa,bK,LZ]at fin⊢;obtain⟨⟨a1,b1⟩,⟨a2,b2⟩,⟨a3,b3⟩,⟨a4,b4⟩,⟨a5,b5⟩,_⟩:=AQ hr;have p0:mF (h2.new (.cells [.Aq,.bool false] 230)) h2.next 230 [] false:=⟨.Aq,0,Ad _ _,.nil _ _ _ _,fun y=>absurd y (bT _)⟩
 have x3:Ext h2 (h2.new (.cells [.Aq,.bool false] 230)):=Av.new _ _;have C:=x3.at O C;have B:=x3.at O B;have u:=x3.at O u;have T:=x3.hb O;have au:=aq.trans x3;generalize h2.new (.cells [.Aq,.bool false] 230)=h3 at p0 x3 C B u T au⊢;generalize hP:h2.next=P at p0 n2⊢
 have up:∀{ha hc:Ab},Ext h ha->Av (fun i=>P<=i) ha hc->Ext h hc:=fun x c=>x.then c fun j hj hl=>by
  have hj:P<=j:=hj;omega
 have E:∀{ha hc:Ab} {i:Nat} {o:D5},Av (fun i=>P<=i) ha hc->HB ha->ha.get i=some o->i<P->hc.get i=some o:=fun c hb g hi=>c.at hb g a_
 rw[Cy C rfl,l1];simp only[Hf];refine(Mb (K:=K) (w:=6) a_ p0 T (by simp) c_ c_ (v:=e.first)).Am ?_;rintro _ h5 ⟨p,c,J⟩;rw[Zb (b:=281474976710655) a1 b1 c_,aI rfl]at p;have x5:=up au c;have C:=E c T C a_;have B:=E c T B a_;have u:=E c T u a_;rw[Cy C rfl,l2];simp only[Hf];refine(Mb (K:=K) (w:=1) a_ p J (by simp[De]) c_ c_ (v:=e.count)).Am ?_;rintro _ h6 ⟨p,c,Y⟩;rw[Zb (b:=4) a_ b4 c_,aI rfl]at p;have x6:=up x5 c;have C:=E c J C a_;have B:=E c J B a_;have u:=E c J u a_;rw[Cy C rfl,l3];simp only[Hf];refine(Mb (K:=K) (w:=1) a_ p Y (by simp[De]) c_ c_ (v:=e.block)).Am ?_;rintro _ h7 ⟨p,c,aa⟩;rw[Zb (b:=255) a2 b2 c_,aI rfl]at p;have x7:=up x6 c;have C:=E c Y C a_;have B:=E c Y B a_;have u:=E c Y u a_;rw[Cy C rfl,l4];simp only[Hf];refine(Mb (K:=K) (w:=2) a_ p aa (by simp[De]) c_ c_ (v:=e.many)).Am ?_;rintro _ h8 ⟨p,c,ab⟩;rw[Zb (b:=256) a5 b5 c_,aI rfl]at p;have x8:=up x7 c;have C:=E c aa C a_;have B:=E c aa B a_;have u:=E c aa u a_;rw[Cy C rfl,l5];simp only[Hf];refine(Mb (K:=K) (w:=2) a_ p ab (by simp[De]) c_ c_ (v:=e.Aw)).Am ?_;rintro _ h9 ⟨p,c,ag⟩;rw[Zb (b:=65535) a3 b3 c_,aI rfl]at p;have x9:=up x8 c;have C:=E c ab C a_;have B:=E c ab B a_;have u:=E c ab u a_
 try simp only[Aa]
 rw[show ∀k:EV->R,Ny 32 1 (.ptr h.next 6) none none none k=k (.slice h.next 6 32 32 false)from fun k=>rfl];have bj:Pm h9 1 32 (.slice h.next 6 32 32 false)=some (Be e.bytes):=by
  show Yy h9 h.next 6 32=_
  unfold Yy mV;rw[C];show Ou e.cells 6 32=_;rw[F9 (by rw[ao];decide)];show some (List.take 32 (Be e.bytes))=_;rw[bS (by rw[Bi,w.len];decide)]
 refine(WV (K:=K) (n:=32) p ag (by simp[De]) rfl c_ c_ bj w.len).Am ?_;rintro _ cA ⟨p,c,U⟩;have bn:=up x9 c;have B:=E c ag B a_;have u:=E c ag u a_;have ep:([]++Pc 6 e.first.toNat++Pc 1 e.count.toNat++Pc 1 e.block.toNat++Pc 2 e.many.toNat++Pc 2 e.Aw.toNat++e.bytes)=Yi e:=by
  unfold Yi;rw[cU]
 have ax:∀b:Bool,(b||!true)=b:=c_
 rw[ep]at p;simp only[ax]at p;have L:=XA w;refine(WW (K:=K) p U (by rw[L];decide)).Am ?_;rintro _ ah ⟨y,q',rfl,ry,W,ad,lq⟩;have B:=W.at U B;have u:=W.at U u;have ay:=bn.trans W;simp only[Aa];rw[show ∀k:EV->R,Ny 44 1 (.ptr (h.next+2) 0) none none none k=k (.slice (h.next+2) 0 44 44 false)from fun k=>rfl];have az:=ry.bs (by rw[L];decide);have hlen:=az.len;have ae:=az.cells;rw[L]at hlen ae;have a0:=AM (h:=ah) (i:=h.next+2) (n:=44) (r:=44) (op:=false) (t:=151) (hd:=[]) (Bt:=Be We) u hlen c_ ae (by rw[Bi,L]) zl;rw[show([]:List EV).length=0 from rfl,cU]at a0;rw[a0,Au];have a6:=ad _ _ u;have u:(ah.put (h.next+2) (.cells (Be (Yi e)) 151)).get (h.next+2)=some (.cells (Be (Yi e)) 151):=Ae _ _ _;have B:(ah.put (h.next+2) (.cells (Be (Yi e)) 151)).get (h.next+1)=some (.cells (Be We) 151):=by rw[Af _];exact B
 rw[Cz u rfl,Ak (by rw[Bi,L])];simp only[Hf];exact fin (Yi e) 0 _ _ (fun _=>rfl) (ad.put a6 _) (ay.Ar (.inr a_) a6 _) B L rfl
theorem Bd5(a b c d e:Int){l:List EV}(o:l.length=44):jF (Dn [(0,1),(1,1),(2,1),(3,1),(4,1),(5,44)]) [(0,I a),(1,I b),(2,I c),(3,I d),(4,I e),(5,.agg l)] Fr.zero.cells=some ([I a,I b,I c,I d,I e]++l):=by
 have hs:=sc [I a,I b,I c,I d,I e] (Be (List.replicate 44 0)) l (by rw[Bi,bR,o]);rw[<-U6]at hs;show Bc (Nat.beq (Gk l) 44) (oB (fun z=>some z) (Nb ([I a,I b,I c,I d,I e]++Be (List.replicate 44 0)) 5 l)) none=_;rw[Bg,o,cL,Al];rw[show(5:Nat) = [I a,I b,I c,I d,I e].length from rfl,hs];rfl
def Es(e:En)(Ai off Ao seq:Int):Fr × Int:=
 if jg e=true/\iv ⟨e.kind,Ai,off,Ao,seq,(Ea e).1⟩=true/\e.first<=seq/\seq-e.count<e.first then(⟨e.kind,Ai,off,Ao,seq,(Ea e).1⟩,0)else(Fr.zero,10)
theorem tE(w:e.Wf)(Ai off Ao seq:Int):(Es e Ai off Ao seq).1.Wf:=by
 unfold Es;split
 ·exact⟨tQ w,XB w⟩
 ·exact Fr.Hh
theorem AS(w:e.Wf)(hb:HB h)(hK:10000<K)(Ai off Ao seq:Int):
 Ok (Kn K (.agg e.cells) (I Ai) (I off) (I Ao) (I seq) h) fun v h'=>v=.tuple [.agg (Es e Ai off Ao seq).1.cells,I (Es e Ai off Ao seq).2]/\Ext h h':=by
 have l0:e.cells[0]? = some (I e.kind):=rfl;have l1:e.cells[1]? = some (I e.first):=rfl;have l2:e.cells[2]? = some (I e.count):=rfl;have aw:=En.Bh w;have zl:=Fr.Bh Fr.Hh;have X:(⟨e.kind,Ai,off,Ao,seq,(Ea e).1⟩:Fr).Wf:=⟨tQ w,XB w⟩;have fl:=Fr.Bh X;simp only[Kn,Aa];rw[Fr.Jq];have x1:Ext h ((h.new (.cells e.cells 141)).new (.cells Fr.zero.cells 153)):=(Av.new _ _).Db _;have u:((h.new (.cells e.cells 141)).new (.cells Fr.zero.cells 153)).get h.next=some (.cells e.cells 141):=by
  rw[Az _ (aN _)];exact Ad _ _
 have o:((h.new (.cells e.cells 141)).new (.cells Fr.zero.cells 153)).get (h.next+1)=some (.cells Fr.zero.cells 153):=Ad _ _;have n1:((h.new (.cells e.cells 141)).new (.cells Fr.zero.cells 153)).next=h.next+2:=rfl
 rw[show(h.new (.cells e.cells 141)).next=h.next+1 from rfl];generalize (h.new (.cells e.cells 141)).new (.cells Fr.zero.cells 153)=h1 at x1 u o n1⊢;have T:=x1.hb hb;have fin:∀(f:Fr) (er:Int) (J:Ab) (kk:Ab->R),(∀h',kk h'=J5 TT [.c (.ptr (h.next+1) 0) 153,.v (I er)] h')->HB J->Ext h J->J.get (h.next+1)=some (.cells Fr.zero.cells 153)->f.Wf->(f,er)=Es e Ai off Ao seq ->
  Ok (hQ 49 (.ptr (h.next+1) 0) (.agg f.cells) J kk) fun v h'=>v=.tuple [.agg (Es e Ai off Ao seq).1.cells,I (Es e Ai off Ao seq).2]/\Ext h h':=by
  intro f er J kk az L Y u wf he;have fl:=Fr.Bh wf;refine Ok.st f.cells u rfl (by show Gk f.cells=49;rw[Bg,fl]) (Bo (by rw[zl];exact fl.symm)) ?_;have g6:(J.put (h.next+1) (.cells f.cells 153)).get (h.next+1)=some (.cells f.cells 153):=Ae _ _ _;rw[az,Em g6 ru.1 ru.2 fl,<-he];exact .ret ⟨rfl,Y.Ar (.inr a_) (L _ _ u) _⟩
 rw[Cz u rfl,Ak aw];simp only[Hf];refine(XC (K:=K) w T hK).Am ?_;rintro _ h2 ⟨rfl,x2⟩;have aa:=x2.hb T;have a0:=x1.trans x2;have u:=x2.at T u;have o:=x2.at T o;have n2:h.next+2<=h2.next:=by have:=x2.next;omega
 simp only[Aa];rw[AP];have x3:Ext h2 (h2.new (.cells (Be We) 151)):=Av.new _ _;have C:(h2.new (.cells (Be We) 151)).get h2.next=some (.cells (Be We) 151):=Ad _ _
 have u:=x3.at aa u;have o:=x3.at aa o;have ab:=x3.hb aa;have ah:=a0.trans x3;have n3:(h2.new (.cells (Be We) 151)).next=h2.next+1:=rfl
 generalize h2.new (.cells (Be We) 151)=h3 at x3 C u o ab ah n3⊢;generalize h2.next=P at C n2 n3⊢
 have bl:(Be (Ea e).1).length=44:=by rw[Bi,tQ w]
 refine Ok.st (Be (Ea e).1) C rfl (by show Gk (Be (Ea e).1)=44;rw[Bg,bl]) (Bo (by rw[Bi];exact bl.symm)) ?_;have ai:=ab _ _ C;have C:(h3.put P (.cells (Be (Ea e).1) 151)).get P=some (.cells (Be (Ea e).1) 151):=Ae _ _ _;have u:(h3.put P (.cells (Be (Ea e).1) 151)).get h.next=some (.cells e.cells 141):=by rw[Af _];exact u
 have o:(h3.put P (.cells (Be (Ea e).1) 151)).get (h.next+1)=some (.cells Fr.zero.cells 153):=by rw[Af _];exact o
 have x4:Ext h (h3.put P (.cells (Be (Ea e).1) 151)):=ah.Ar (.inr a_) ai _;have U:=ab.put ai (.cells (Be (Ea e).1) 151);have n4:(h3.put P (.cells (Be (Ea e).1) 151)).next=P+1:=n3
 generalize h3.put P (.cells (Be (Ea e).1) 151)=h4 at C u o x4 U n4⊢
 try simp only[Aa]
 rw[Cy u rfl,l0];simp only[Hf];rw[Cz C rfl,Ak bl];simp only[Hf]
 try rw[Fr.Jq]
 rw[Ay (Bd5 e.kind Ai off Ao seq bl)]
 try simp only[Aa]
 have Y:Ext h4 (h4.new (.cells Fr.zero.cells 153)):=Av.new _ _;have B:(h4.new (.cells Fr.zero.cells 153)).get h4.next=some (.cells Fr.zero.cells 153):=Ad _ _
 have u:=Y.at U u;have o:=Y.at U o;have L:=Y.hb U;have aj:=x4.trans Y;generalize h4.new (.cells Fr.zero.cells 153)=J at Y B u o L aj⊢;generalize h4.next=Q at B n4⊢
 refine Ok.st (⟨e.kind,Ai,off,Ao,seq,(Ea e).1⟩:Fr).cells B rfl (by show Gk (⟨e.kind,Ai,off,Ao,seq,(Ea e).1⟩:Fr).cells=49;rw[Bg,fl]) (Bo (by rw[zl];exact fl.symm)) ?_;have al:=L _ _ B;have B:(J.put Q (.cells (⟨e.kind,Ai,off,Ao,seq,(Ea e).1⟩:Fr).cells 153)).get Q=some (.cells (⟨e.kind,Ai,off,Ao,seq,(Ea e).1⟩:Fr).cells 153):=Ae _ _ _;have u:(J.put Q (.cells (⟨e.kind,Ai,off,Ao,seq,(Ea e).1⟩:Fr).cells 153)).get h.next=some (.cells e.cells 141):=by rw[Af _];exact u
 have o:(J.put Q (.cells (⟨e.kind,Ai,off,Ao,seq,(Ea e).1⟩:Fr).cells 153)).get (h.next+1)=some (.cells Fr.zero.cells 153):=by rw[Af _];exact o
 have x6:Ext h (J.put Q (.cells (⟨e.kind,Ai,off,Ao,seq,(Ea e).1⟩:Fr).cells 153)):=aj.Ar (.inr a_) al _;have E:=L.put al (.cells (⟨e.kind,Ai,off,Ao,seq,(Ea e).1⟩:Fr).cells 153);generalize J.put Q (.cells (⟨e.kind,Ai,off,Ao,seq,(Ea e).1⟩:Fr).cells 153)=h6 at B u o x6 E⊢;have a2:(Ea e).2=if jg e=true then 0 else 10:=by unfold Ea;split<;>rfl
 rw[a2];unfold Es at fin⊢;generalize a3:(⟨e.kind,Ai,off,Ao,seq,(Ea e).1⟩:Fr)=f at fin X fl B⊢;have no:∀W:Ab,Ext h6 W->¬(jg e=true/\iv f=true/\e.first<=seq/\seq-e.count<e.first)->Ok (Bp (Dn [(0,1),(1,1),(2,1),(3,1),(4,1),(5,44)]) Fr.zero.cells [] fun a4=>hQ 49 (.ptr (h.next+1) 0) a4 W fun z=>J5 TT [.c (.ptr (h.next+1) 0) 153,.v (.int .i64 10)] z) _:=fun W O a5=>by
  rw[Ay (l:=Fr.zero.cells) rfl];exact fin Fr.zero 10 W _ (fun _=>rfl) (O.hb E) (x6.trans O) (O.at E o) Fr.Hh (by rw[aG a5])
 simp only[I,Ac];by_cases hr:jg e=true
 ·rw[aI hr]
  simp only[aB,aA,Aa];rw[Cz B rfl,Ak fl];simp only[Hf];refine(AL (K:=K) f).Am ?_;rintro _ W ⟨rfl,O⟩;have u:=O.at E u;cases hf:iv f with
  | false=>
   simp only[Aa,Ac,N3,J9,Hv];have r:=no W O (by rw[hf];simp);rw[hf]at r;exact r
  | true=>
   have ad:=hf;rw[<-a3]at ad;simp only[iv,aV]at ad;have bj:=Fk.1 ad.2.2.2.2;have bn:=(AQ hr).2.2.2.1;have rr:=no W O;have rf:=fin f 0 W (fun z=>J5 TT [RV.c (EV.ptr (h.next+1) 0) 153,RV.v (EV.int IntKind.i64 0)] z) (fun _=>rfl) (O.hb E) (x6.trans O) (O.at E o) X;rw[hf]at rr rf;simp only[eq_self]at rr rf;simp only[Aa,Ac,N3];rw[Cy u rfl,l1];simp only[Hf,I,Ac];by_cases aq:seq<e.first
   ·rw[show decide (seq<e.first)=true from aO aq]
    simp only[Aa,Ac,J9,Hv];exact rr fun y=>a_
   ·rw[show decide (seq<e.first)=false from aL aq]
    simp only[Aa,Ac,J9];rw[Cy u rfl,l1];simp only[Hf];rw[Cy u rfl,l2];simp only[Hf,I,Ac];rw[Ch];by_cases au:e.first<=seq-e.count
    ·rw[show decide (e.first<=seq-e.count)=true from aO au]
     simp only[Aa,Ac,Hv];exact rr fun y=>a_
    ·rw[show decide (e.first<=seq-e.count)=false from aL au]
     simp only[Aa,Ac,Hv,MI];rw[Cz (O.at E B) rfl,Ak fl];exact rf (by rw[aI ⟨hr,trivial,a_,a_⟩])
 ·rw[aG hr]
  simp only[show ¬((10:Int)=0) from c_,aQ,aC,Aa,Ac,N3,J9,Hv];exact no h6 (Av.refl _) fun y=>hr y.1
def En.zero:En:=⟨0,0,0,0,0,0,Dt⟩
theorem En.Jq:List.replicate 6 (EV.int .i64 0)++List.replicate 32 (EV.int .u8 0)=En.zero.cells:=by kernel_rfl
theorem En.Hh:En.zero.Wf:=⟨rfl,fun b hb=>by rw[bO hb];decide⟩
theorem wx:TT.size 141=some 38/\TT.agg 141=some true:=⟨by kernel_rfl,by kernel_rfl⟩
def mH(kind:Int)(p:List Nat):En:=⟨kind,Ps (p.take 6),Ps ((p.drop 6).take 1),Ps (((p.drop 6).drop 1).take 1),Ps ((((p.drop 6).drop 1).drop 1).take 2),Ps (((((p.drop 6).drop 1).drop 1).drop 2).take 2),((((((p.drop 6).drop 1).drop 1).drop 2).drop 2).take 32)⟩
theorem XD{p:List Nat}(hp:p.length=44)(hu:∀b∈p,b<256):(mH kind p).Wf:=by
 refine⟨?_,fun b hb=>hu b ?_⟩
 ·simp only[mH,bW,bA,hp];decide
 ·simp only[mH]at hb
  exact aH (aH (aH (aH (aH (bV hb)))))
def iG(kind:Int)(p:List Nat):En × Int:=
 if(Ea (mH kind p)).2=0/\(Ea (mH kind p)).1=p then(mH kind p,0)else(En.zero,10)
theorem XE{p:List Nat}(hp:p.length=44)(hu:∀b∈p,b<256):(iG kind p).1.Wf:=by
 unfold iG;split
 ·exact XD hp hu
 ·exact En.Hh
theorem Bcg(k:Int)(a b c d e:Nat):jF (Dn [(0,1),(1,1),(2,1),(3,1),(4,1),(5,1),(6,32)]) [(0,I k),(1,Nk .i64 a),(2,Nk .i64 b),(3,Nk .i64 c),(4,Nk .i64 d),(5,Nk .i64 e)] En.zero.cells=some ([I k,Nk .i64 a,Nk .i64 b,Nk .i64 c,Nk .i64 d,Nk .i64 e]++Be Dt):=rfl
theorem Ba3{p:List Nat}(hp:p.length=44)(hu:∀b∈p,b<256)(hb:HB h)(hK:10000<K)(kind:Int):
 Ok (uK K (I kind) (.agg (Be p)) h) fun v h'=>v=.tuple [.agg (iG kind p).1.cells,I (iG kind p).2]/\Ext h h':=by
 have zl:=En.Bh En.Hh;have ul:(Be p).length=44:=by rw[Bi,hp]
 simp only[uK,Aa];rw[En.Jq];have x1:Ext h ((h.new (.cells (Be p) 151)).new (.cells En.zero.cells 141)):=(Av.new _ _).Db _;have u:((h.new (.cells (Be p) 151)).new (.cells En.zero.cells 141)).get h.next=some (.cells (Be p) 151):=by
  rw[Az _ (aN _)];exact Ad _ _
 have B:((h.new (.cells (Be p) 151)).new (.cells En.zero.cells 141)).get (h.next+1)=some (.cells En.zero.cells 141):=Ad _ _;have n1:((h.new (.cells (Be p) 151)).new (.cells En.zero.cells 141)).next=h.next+2:=rfl
 rw[show(h.new (.cells (Be p) 151)).next=h.next+1 from rfl];generalize (h.new (.cells (Be p) 151)).new (.cells En.zero.cells 141)=h1 at x1 u B n1⊢;have bq:=x1.hb hb;have h_:=XD (kind:=kind) hp hu;have fin:∀(e:En) (er:Int) (h5:Ab) (kk:Ab->R),(∀h',kk h'=J5 TT [.c (.ptr (h.next+1) 0) 141,.v (I er)] h')->HB h5->Ext h h5->h5.get (h.next+1)=some (.cells En.zero.cells 141)->e.Wf->(e,er)=iG kind p ->
  Ok (hQ 38 (.ptr (h.next+1) 0) (.agg e.cells) h5 kk) fun v h'=>v=.tuple [.agg (iG kind p).1.cells,I (iG kind p).2]/\Ext h h':=by
  intro e er h5 kk df aj x5 g5 wf he;have fl:=En.Bh wf;refine Ok.st e.cells g5 rfl (by show Gk e.cells=38;rw[Bg,fl]) (Bo (by rw[zl];exact fl.symm)) ?_;have g6:(h5.put (h.next+1) (.cells e.cells 141)).get (h.next+1)=some (.cells e.cells 141):=Ae _ _ _;rw[df,Em g6 wx.1 wx.2 fl,<-he];exact .ret ⟨rfl,x5.Ar (.inr a_) (aj _ _ g5) _⟩
 rw[show ∀k:EV->R,Ny 44 1 (.ptr h.next 0) none none none k=k (.slice h.next 0 44 44 false)from fun k=>rfl];have bs:Bs h1 (.slice h.next 0 44 44 false) h.next 0 p:=by
  refine⟨44,false,_,Be p,by rw[hp],a_,u,rfl,by rw[ul];omega,?_⟩;rw[dE,hp,<-ul,bY]
 refine(v_ (K:=K) bs bq).Am ?_;rintro _ h5 ⟨Rr,q,rfl,d0,x5,aj,eg⟩;have u:=x5.at bq u;have B:=x5.at bq B;have dg:=x1.trans x5;have ei:Rr<h5.next:=by obtain⟨_,g,_⟩:=d0.Ph;exact aj _ _ g
 have ej:h.next+1<Rr:=by have:=d0.ne;omega
 have up:∀{ha hc:Ab},Ext h ha->Av (fun i=>i=Rr) ha hc->Ext h hc:=fun x c=>x.then c fun j hj di=>by
  have hj:j=Rr:=hj;omega
 have F1:∀{ha hc:Ab} {i:Nat} {o:D5},Av (fun i=>i=Rr) ha hc->HB ha->ha.get i=some o->i≠Rr->hc.get i=some o:=fun c hb g hi=>c.at hb g hi
 refine(Ln (K:=K) (w:=6) d0 aj a_ c_ c_ a_ hu).Am ?_;rintro _ h6 ⟨rfl,d1,c6,bt⟩;have u:=F1 c6 aj u a_;have B:=F1 c6 aj B a_;have x6:=up dg c6;refine(Ln (K:=K) (w:=1) d1 bt a_ c_ c_ (by simp only[bA];omega) (fun b hb=>hu b (aH hb))).Am ?_;rintro _ h7 ⟨rfl,d2,c7,bu⟩;have u:=F1 c7 bt u a_;have B:=F1 c7 bt B a_;have x7:=up x6 c7;refine(Ln (K:=K) (w:=1) d2 bu a_ c_ c_ (by simp only[bA];omega) (fun b hb=>hu b (aH (aH hb)))).Am ?_;rintro _ h8 ⟨rfl,d3,c8,bw⟩;have u:=F1 c8 bu u a_;have B:=F1 c8 bu B a_;have x8:=up x7 c8;refine(Ln (K:=K) (w:=2) d3 bw a_ c_ c_ (by simp only[bA];omega) (fun b hb=>hu b (aH (aH (aH hb))))).Am ?_;rintro _ h9 ⟨rfl,d4,c9,bx⟩;have u:=F1 c9 bw u a_;have B:=F1 c9 bw B a_;have x9:=up x8 c9;refine(Ln (K:=K) (w:=2) d4 bx a_ c_ c_ (by simp only[bA];omega) (fun b hb=>hu b (aH (aH (aH (aH hb)))))).Am ?_;rintro _ ab ⟨rfl,d5,a6,ah⟩;have u:=F1 a6 bx u a_;have B:=F1 a6 bx B a_;have dm:=up x9 a6
 try rw[En.Jq]
 rw[Ay (Bcg kind _ _ _ _ _)]
 try simp only[Aa]
 have ao:Ext ab (ab.new (.cells En.zero.cells 141)):=Av.new _ _;have W:(ab.new (.cells En.zero.cells 141)).get ab.next=some (.cells En.zero.cells 141):=Ad _ _
 have cc:(ab.new (.cells En.zero.cells 141)).next=ab.next+1:=rfl
 have u:=ao.at ah u;have B:=ao.at ah B;have X:=ao.hb ah;have d5:=d5.ext ah ao;have cf:=dm.trans ao;have hF:Rr<ab.next:=by have:=c6.next;have:=c7.next;have:=c8.next;have:=c9.next;have:=a6.next;omega
 generalize ab.new (.cells En.zero.cells 141)=ax at ao W cc u B X d5 cf⊢;generalize ab.next=Fb at W cc hF⊢
 have U:(((((p.drop 6).drop 1).drop 1).drop 2).drop 2).length=32:=by simp only[bA];omega
 unfold iG mH at fin⊢;unfold mH at h_;generalize (((((p.drop 6).drop 1).drop 1).drop 2).drop 2)=body at d5 U fin h_⊢;generalize Ps (p.take 6)=C at fin h_⊢;generalize Ps ((p.drop 6).take 1)=J at fin h_⊢;generalize Ps (((p.drop 6).drop 1).take 1)=L at fin h_⊢;generalize Ps ((((p.drop 6).drop 1).drop 1).take 2)=O at fin h_⊢;generalize Ps (((((p.drop 6).drop 1).drop 1).drop 2).take 2)=T at fin h_⊢;have ch:body.take 32=body:=bS a_;rw[ch]at fin h_⊢;have bf:([I kind,Nk .i64 C,Nk .i64 J,Nk .i64 L,Nk .i64 O,Nk .i64 T]++Be Dt).length=38:=by rw[aF,Bi];rfl
 refine Ok.st ([I kind,Nk .i64 C,Nk .i64 J,Nk .i64 L,Nk .i64 O,Nk .i64 T]++Be Dt) W rfl (by show Gk ([I kind,Nk .i64 C,Nk .i64 J,Nk .i64 L,Nk .i64 O,Nk .i64 T]++Be Dt)=38;rw[Bg,bf]) (Bo (by rw[zl];exact bf.symm)) ?_;have lF:=X _ _ W;have ay:Av (fun i=>i=Fb) ax (ax.put Fb (.cells ([I kind,Nk .i64 C,Nk .i64 J,Nk .i64 L,Nk .i64 O,Nk .i64 T]++Be Dt) 141)):=(Av.refl (S:=fun i=>i=Fb) ax).Ar (.inl rfl) lF _;have W:(ax.put Fb (.cells ([I kind,Nk .i64 C,Nk .i64 J,Nk .i64 L,Nk .i64 O,Nk .i64 T]++Be Dt) 141)).get Fb=some (.cells ([I kind,Nk .i64 C,Nk .i64 J,Nk .i64 L,Nk .i64 O,Nk .i64 T]++Be Dt) 141):=Ae _ _ _;have Y:=X.put lF (.cells ([I kind,Nk .i64 C,Nk .i64 J,Nk .i64 L,Nk .i64 O,Nk .i64 T]++Be Dt) 141);generalize ax.put Fb (.cells ([I kind,Nk .i64 C,Nk .i64 J,Nk .i64 L,Nk .i64 O,Nk .i64 T]++Be Dt) 141)=dp at ay W Y⊢;have ct:∀{ha hc:Ab},Ext h ha->Av (fun i=>i=Fb) ha hc->Ext h hc:=fun x c=>x.then c fun j hj di=>by
  have hj:j=Fb:=hj;omega
 have ae:∀{ha hc:Ab} {i:Nat} {o:D5},Av (fun i=>i=Fb) ha hc->HB ha->ha.get i=some o->i≠Fb->hc.get i=some o:=fun c hb g hi=>c.at hb g hi
 have u:=ae ay X u a_;have B:=ae ay X B a_;have d5:=d5.chg X ay (by have:=d5.ne;intro y;omega) (by intro y;omega);have dt:=ct cf ay
 try simp only[Aa]
 rw[show ∀k:EV->R,Ny 32 1 (.ptr Fb 6) none none none k=k (.slice Fb 6 32 32 false)from fun k=>rfl];have dl:Rd dp.lift Rr q (0+6+1+1+2+2) body:=d5.chg Y (S:=fun _=>False) ⟨fun i _ _=>Bx _ _,aE _,fun w _ w2 _=>w2,fun y=>C8 y⟩ id id;refine Ok.bC (S:=fun i=>i=Rr) (WZ (K:=K) (n:=32) dl (C8 Y) c_) (fun _ _ p=>p.2.2.1) ?_;rintro cv ea az s' ⟨a0,_,_,bz⟩ bj a7 b5;have ai:=bj.hb bz;have a0:=a0.frame (bj.get _);rw[ch]at a0;have u:=F1 a7 Y u a_;have B:=F1 a7 Y B a_;have W:=F1 a7 Y W a_;have du:=up dt a7;have hlen:lenOf cv=some 32:=by have:=a0.len;rw[U]at this;exact this
 have cw:Pm az.lift 1 32 cv=some (Be body):=by have:=a0.lift.cells;rw[U]at this;exact this
 have dw:=AM (h:=az.lift) (i:=Fb) (n:=32) (r:=32) (op:=false) (t:=141) (hd:=[I kind,Nk .i64 C,Nk .i64 J,Nk .i64 L,Nk .i64 O,Nk .i64 T]) (Bt:=Be Dt) (by rw[Bx];exact W) hlen c_ cw (by rw[Bi,U]) (by rw[Bi];rfl);have cx:=ai _ _ W;refine Ok.rP (S:=fun i=>i=Fb) (by rcases b5 with rfl|⟨w,rfl,_⟩<;>kernel_rfl) (by rcases b5 with rfl|⟨w,rfl,_⟩<;>kernel_rfl) (fun w=>by rcases b5 with rfl|⟨w,rfl,_⟩<;>kernel_rfl) (P:=fun v h'=>h'=az.lift.put Fb (.cells ([I kind,Nk .i64 C,Nk .i64 J,Nk .i64 L,Nk .i64 O,Nk .i64 T]++Be body) 141)) ⟨_,_,dw,rfl⟩ (fun _ _ p=>by rw[p];exact(Av.refl (S:=fun i=>i=Fb) az.lift).Ar (.inl rfl) (show Fb<az.lift.next from cx) _) ?_;rintro ew eb dx s2 rfl cy a8 _;have af:=a8.hb ai;have W:dx.get Fb=some (.cells (⟨kind,C,J,L,O,T,body⟩:En).cells 141):=by rw[cy.get];exact Ae _ _ _
 have u:=ae a8 ai u a_;have B:=ae a8 ai B a_;have dy:=ct du a8;generalize hE:(⟨kind,C,J,L,O,T,body⟩:En)=E at fin h_ W⊢;have el:=En.Bh h_;rw[Cz W rfl,Ak el];simp only[Hf];refine(XC (K:=K) h_ af hK).Am ?_;rintro _ ag ⟨rfl,a1⟩;have aa:=a1.hb af;have u:=a1.at af u;have B:=a1.at af B;have W:=a1.at af W;have bn:=dy.trans a1;have cz:=aa _ _ W
 try simp only[Aa]
 rw[AP];have aq:Ext ag (ag.new (.cells (Be We) 151)):=Av.new _ _;have g8:(ag.new (.cells (Be We) 151)).get ag.next=some (.cells (Be We) 151):=Ad _ _
 have u:=aq.at aa u;have B:=aq.at aa B;have W:=aq.at aa W;have a2:=aq.hb aa;have bp:=bn.trans aq;have cA:h.next+2<=ag.next:=by have:=x1.next;have:=bn.next;have:=aa _ _ (by assumption:ag.get (h.next+1)=some (.cells En.zero.cells 141));omega
 generalize ag.new (.cells (Be We) 151)=au at aq g8 u B W a2 bp⊢;generalize ag.next=P at g8 cz cA⊢
 have bl:(Be (Ea E).1).length=44:=by rw[Bi,tQ h_]
 refine Ok.st (Be (Ea E).1) g8 rfl (by show Gk (Be (Ea E).1)=44;rw[Bg,bl]) (Bo (by rw[Bi];exact bl.symm)) ?_;have l8:=a2 _ _ g8;have g8:(au.put P (.cells (Be (Ea E).1) 151)).get P=some (.cells (Be (Ea E).1) 151):=Ae _ _ _;have u:(au.put P (.cells (Be (Ea E).1) 151)).get h.next=some (.cells (Be p) 151):=by rw[Af _];exact u
 have B:(au.put P (.cells (Be (Ea E).1) 151)).get (h.next+1)=some (.cells En.zero.cells 141):=by rw[Af _];exact B
 have W:(au.put P (.cells (Be (Ea E).1) 151)).get Fb=some (.cells E.cells 141):=by rw[Af _];exact W
 have a3:Ext h (au.put P (.cells (Be (Ea E).1) 151)):=bp.Ar (.inr a_) l8 _;have a4:=a2.put l8 (.cells (Be (Ea E).1) 151);generalize au.put P (.cells (Be (Ea E).1) 151)=b8 at g8 u B W a3 a4⊢;simp only[I,Ac];have no:¬((Ea E).2=0/\(Ea E).1=p)->Ok (Bp (Dn [(0,1),(1,1),(2,1),(3,1),(4,1),(5,1),(6,32)]) En.zero.cells [] fun dA=>hQ 38 (.ptr (h.next+1) 0) dA b8 fun z=>J5 TT [.c (.ptr (h.next+1) 0) 141,.v (.int .i64 10)] z) _:=fun dB=>by
  rw[Ay (l:=En.zero.cells) rfl];exact fin En.zero 10 b8 _ (fun _=>rfl) a4 a3 B En.Hh (by rw[aG dB])
 by_cases h0:(Ea E).2=0
 ·rw[show decide (¬(Ea E).2=0)=false from aL fun y=>y h0]
  simp only[Aa];rw[Cz g8 rfl,Ak bl];simp only[Hf];rw[Cz u rfl,Ak ul];simp only[Hf];rw[Bhg Bsi (tQ h_) hp];by_cases a9:(Ea E).1=p
  ·rw[show decide (¬(Ea E).1=p)=false from aL fun y=>y a9]
   simp only[uJ,Aa,MH];rw[Cz W rfl,Ak el];exact fin E 0 b8 _ (fun _=>rfl) a4 a3 B h_ (by rw[aI ⟨h0,a9⟩])
  ·rw[show decide (¬(Ea E).1=p)=true from aO a9]
   simp only[uJ,Aa];exact no fun y=>a9 y.2
 ·rw[show decide (¬(Ea E).2=0)=true from aO h0]
  simp only[Aa,uJ];exact no fun y=>h0 y.1
def Vg(f:Fr):En × Int:=
 if ¬(iG f.kind f.body).2=0 then(En.zero,(iG f.kind f.body).2)else
 if ¬(Es (iG f.kind f.body).1 f.Ai f.off f.Ao f.seq).2=0 then(En.zero,(Es (iG f.kind f.body).1 f.Ai f.off f.Ao f.seq).2)else((iG f.kind f.body).1,0)
theorem A3c(w:f.Wf)(hb:HB h)(hK:10000<K):
 Ok (uM K (.agg f.cells) h) fun v h'=>v=.tuple [.agg (Vg f).1.cells,I (Vg f).2]/\(Vg f).1.Wf/\Ext h h':=by
 have l0:f.cells[0]? = some (I f.kind):=rfl;have l1:f.cells[1]? = some (I f.Ai):=rfl;have l2:f.cells[2]? = some (I f.off):=rfl;have l3:f.cells[3]? = some (I f.Ao):=rfl;have l4:f.cells[4]? = some (I f.seq):=rfl;have ai:=Fr.Bh w;have l5:Ou f.cells 5 44=some (Be f.body):=by
  rw[F9 (by rw[ai];decide)];show some (List.take 44 (Be f.body))=_;rw[bS (by rw[Bi,w.len];decide)]
 have zl:=En.Bh En.Hh;have E:=XE (kind:=f.kind) w.len w.u8;have ol:=En.Bh E;simp only[uM,Aa];rw[En.Jq];have x1:Ext h ((h.new (.cells f.cells 153)).new (.cells En.zero.cells 141)):=(Av.new _ _).Db _;have o:((h.new (.cells f.cells 153)).new (.cells En.zero.cells 141)).get h.next=some (.cells f.cells 153):=by
  rw[Az _ (aN _)];exact Ad _ _
 have u:((h.new (.cells f.cells 153)).new (.cells En.zero.cells 141)).get (h.next+1)=some (.cells En.zero.cells 141):=Ad _ _;have n1:((h.new (.cells f.cells 153)).new (.cells En.zero.cells 141)).next=h.next+2:=rfl
 rw[show(h.new (.cells f.cells 153)).next=h.next+1 from rfl];generalize (h.new (.cells f.cells 153)).new (.cells En.zero.cells 141)=h1 at x1 o u n1⊢;have J:=x1.hb hb;have fin:∀(e:En) (W:Int) (L:Ab) (kk:Ab->R),(∀h',kk h'=J5 TT [.c (.ptr (h.next+1) 0) 141,.v (I W)] h')->HB L->Ext h L->L.get (h.next+1)=some (.cells En.zero.cells 141)->e.Wf->(e,W)=Vg f ->
  Ok (hQ 38 (.ptr (h.next+1) 0) (.agg e.cells) L kk) fun v h'=>v=.tuple [.agg (Vg f).1.cells,I (Vg f).2]/\(Vg f).1.Wf/\Ext h h':=by
  intro e W L kk al O X g5 wf he;have fl:=En.Bh wf;refine Ok.st e.cells g5 rfl (by show Gk e.cells=38;rw[Bg,fl]) (Bo (by rw[zl];exact fl.symm)) ?_;have g6:(L.put (h.next+1) (.cells e.cells 141)).get (h.next+1)=some (.cells e.cells 141):=Ae _ _ _;rw[al,Em g6 wx.1 wx.2 fl,<-he];exact .ret ⟨rfl,wf,X.Ar (.inr a_) (O _ _ g5) _⟩
 rw[Cy o rfl,l0];simp only[Hf];rw[Cz o rfl,l5];simp only[Hf];refine(Ba3 (K:=K) w.len w.u8 J hK f.kind).Am ?_;rintro _ h2 ⟨rfl,Y⟩;have T:=Y.hb J;have ao:=x1.trans Y;have o:=Y.at J o;have u:=Y.at J u;have n2:h.next+2<=h2.next:=by have:=Y.next;omega
 try simp only[Aa]
 try rw[En.Jq]
 have x3:Ext h2 (h2.new (.cells En.zero.cells 141)):=Av.new _ _;have C:(h2.new (.cells En.zero.cells 141)).get h2.next=some (.cells En.zero.cells 141):=Ad _ _
 have o:=x3.at T o;have u:=x3.at T u;have U:=x3.hb T;have ab:=ao.trans x3;generalize h2.new (.cells En.zero.cells 141)=h3 at x3 C o u U ab⊢;generalize h2.next=P at C n2⊢
 refine Ok.st (iG f.kind f.body).1.cells C rfl (by show Gk (iG f.kind f.body).1.cells=38;rw[Bg,ol]) (Bo (by rw[zl];exact ol.symm)) ?_;have ae:=U _ _ C;have C:(h3.put P (.cells (iG f.kind f.body).1.cells 141)).get P=some (.cells (iG f.kind f.body).1.cells 141):=Ae _ _ _;have o:(h3.put P (.cells (iG f.kind f.body).1.cells 141)).get h.next=some (.cells f.cells 153):=by rw[Af _];exact o
 have u:(h3.put P (.cells (iG f.kind f.body).1.cells 141)).get (h.next+1)=some (.cells En.zero.cells 141):=by rw[Af _];exact u
 have x4:Ext h (h3.put P (.cells (iG f.kind f.body).1.cells 141)):=ab.Ar (.inr a_) ae _;have B:=U.put ae (.cells (iG f.kind f.body).1.cells 141);generalize h3.put P (.cells (iG f.kind f.body).1.cells 141)=h4 at C o u x4 B⊢;unfold Vg at fin⊢;generalize (iG f.kind f.body).2=W at fin⊢;generalize (iG f.kind f.body).1=e at fin E ol C⊢;simp only[I,Ac];by_cases h0:W=0
 ·subst h0
  simp only[aB,aA,Aa,ak,MQ]at fin⊢;rw[Cz C rfl,Ak ol];simp only[Hf];rw[Cy o rfl,l1];simp only[Hf,Aa];rw[Cy o rfl,l2];simp only[Hf,Aa];rw[Cy o rfl,l3];simp only[Hf,Aa];rw[Cy o rfl,l4];simp only[Hf,Aa];refine(AS (K:=K) E B hK f.Ai f.off f.Ao f.seq).Am ?_;rintro _ L ⟨rfl,X⟩;have O:=X.hb B;have u:=X.at B u;have C:=X.at B C;have af:=x4.trans X;generalize (Es e f.Ai f.off f.Ao f.seq).2=ag at fin⊢;simp only[Aa,I,Ac];by_cases ah:ag=0
  ·subst ah
   simp only[aB,aA,Aa,ak,MP]at fin⊢;rw[Cz C rfl,Ak ol];exact fin e 0 L _ (fun _=>rfl) O af u E rfl
  ·simp only[ah,aQ,aC,Aa,bK]at fin⊢
   rw[Ay (l:=En.zero.cells) rfl];exact fin En.zero ag L _ (fun _=>rfl) O af u En.Hh rfl
 ·simp only[h0,aQ,aC,Aa,bK]at fin⊢
  rw[Ay (l:=En.zero.cells) rfl];exact fin En.zero W h4 _ (fun _=>rfl) B x4 u En.Hh rfl
theorem tJ:∀(w a:Nat),Ps (Pc w a)=a%256^w
 | 0,a=>by simp[Pc,Ps,Nat.mod_one]
 | w+1,a=>by
  rw[wS,AJ,tJ w a,De,Nat.mod_pow_succ]
theorem Ie {w:Nat}{b:Int}(h0:0<=v)(hb:v<=b)(hw:b<(256^w:Nat)):((Ps (Pc w v.toNat):Nat):Int)=v:=by
 rw[tJ,fD a_];omega
theorem q7 {a b:List Nat}(h:a.length=n):(a++b).take n=a:=by subst h;simp
theorem pT {a b:List Nat}(h:a.length=n):(a++b).drop n=b:=by subst h;simp
theorem Bby(w:f.Wf):j8 (Jh f)=true:=by
 have o:=nH w;have h2:=rq w;unfold j8;rw[o];apply aO;unfold Jh;rw[q7 h2,pT h2]
theorem A5m(w:f.Wf)(o:iv f=true):mG (kz f)=f/\Ps (((kz f).drop 1).take 1)=1:=by
 simp only[iv,aV]at o;obtain⟨u,B,C,E,J⟩:=o;obtain⟨W,b1⟩:=Fk.1 u;obtain⟨L,b2⟩:=Fk.1 B;obtain⟨O,b3⟩:=Fk.1 C;obtain⟨X,b4⟩:=Fk.1 E;obtain⟨T,U⟩:=Fk.1 J;have Y:=w.len;have t44:f.body.take 44=f.body:=bS a_;unfold mG kz;simp only[bZ,q7 (De _ _),pT (De _ _),t44];rw[Ie (w:=1) a_ b1 c_,Ie (w:=2) L b2 c_,Ie (w:=2) O b3 c_,Ie (w:=4) a_ b4 c_,Ie (w:=6) T U c_];exact⟨rfl,by rw[tJ]⟩
theorem Bjj(w:f.Wf)(o:iv f=true):Tw (Jh f)=(f,0):=by
 obtain⟨e1,e2⟩:=A5m w o;have h2:=rq w;have u:(Jh f).take 60=kz f:=by unfold Jh;exact q7 h2
 unfold Tw;rw[aG (by rw[Bby w];simp),u,e1,aI ⟨e2,o⟩]
theorem v9(w:f.Wf)(o:iv f=true):iD (Jh f) f.Ai f.off=(f,0):=by
 unfold iD;rw[Bjj w o];simp
theorem A24(w:e.Wf)(o:jg e=true):mH e.kind (Yi e)=e:=by
 obtain⟨⟨u,b1⟩,⟨B,b2⟩,⟨C,b3⟩,⟨L,b4⟩,⟨E,J⟩,_⟩:=AQ o;have O:=w.len;have t32:e.bytes.take 32=e.bytes:=bS a_;unfold mH Yi;simp only[bZ,q7 (De _ _),pT (De _ _),t32];rw[Ie (w:=6) u b1 c_,Ie (w:=1) a_ b4 c_,Ie (w:=1) B b2 c_,Ie (w:=2) E J c_,Ie (w:=2) C b3 c_]
theorem Bha(w:e.Wf)(o:jg e=true):iG e.kind (Yi e)=(e,0):=by
 unfold iG;rw[A24 w o];unfold Ea;rw[aI o];simp
theorem v8(w:e.Wf){Ai off seq:Int}(h:(Es e Ai off Ao seq).2=0):
 (Es e Ai off Ao seq).1=⟨e.kind,Ai,off,Ao,seq,Yi e⟩/\iv ⟨e.kind,Ai,off,Ao,seq,Yi e⟩=true/\jg e=true/\Vg ⟨e.kind,Ai,off,Ao,seq,Yi e⟩=(e,0):=by
 by_cases o:jg e=true/\iv ⟨e.kind,Ai,off,Ao,seq,(Ea e).1⟩=true/\e.first<=seq/\seq-e.count<e.first
 ·have hb:(Ea e).1=Yi e:=by unfold Ea;rw[aI o.1]
  have hf:Es e Ai off Ao seq=(⟨e.kind,Ai,off,Ao,seq,Yi e⟩,0):=by unfold Es;rw[aI o,hb]
  rw[hb]at o;refine⟨by rw[hf],o.2.1,o.1,?_⟩;unfold Vg;simp only[Bha w o.1,hf];simp
 ·exfalso
  unfold Es at h;rw[aG o]at h;exact absurd h c_
def Sr(g:Gm)(z off:Int):Bool:=rtB g&&(wi z 0 (g.D*g.Z-1)&&wi off 0 (g.S-1))
theorem w_(hb:HB h)(z off:Int):Ok (Nj K (gV g) (I z) (I off) h) fun v h'=>v=.bool (Sr g z off)/\Ext h h':=by
 simp only[Nj,gV,Aa];obtain⟨W,X,C,L,_⟩:=nW h (.cells (gL g) 23);rw[X];have o:=C.hb hb;rw[Cz L rfl,Ak (show(gL g).length=6 from rfl)];simp only[Hf];rw[show EV.agg (gL g)=gV g from rfl];refine(uj (K:=K) g W).Am ?_;rintro _ h2 ⟨rfl,u⟩;have J:=u.hb o;have O:=u.at o L;unfold Sr;cases Y:rtB g with
 | false=>
  simp only[Aa,Ac,P7,Qo,bB];exact .ret ⟨rfl,C.trans u⟩
 | true=>
  have s:=Jp Y;have:=s.d0;have:=s.d1;have:=s.z0;have:=s.z1;have:=s.s0;have:=s.s1;obtain⟨m0,m1⟩:=Rl (a:=g.D) (b:=g.Z) (A:=8) (B:=64);simp only[Aa,Ac,bF];rw[Cz O rfl,Ak (show(gL g).length=6 from rfl)];simp only[Hf];rw[show EV.agg (gL g)=gV g from rfl,N8 s,Au];have E:Ext h2 (h2.new (.cells (gL g) 23)):=Av.new _ _;have T:=E.at J O;generalize h2.new (.cells (gL g) 23)=U at E T⊢;simp only[I,Ac];rw[Ch];have w1:=zX (K:=K) z 0 (g.D*g.Z-1) U;simp only[I]at w1;rw[w1,Au];cases wi z 0 (g.D*g.Z-1)with
  | false=>
   simp only[Aa,Ac,P7,Qo,bB];exact .ret ⟨rfl,(C.trans u).trans E⟩
  | true=>
   simp only[Aa,Ac,P7];rw[Cy T rfl,show(gL g)[2]? = some (I g.S)from rfl];simp only[Hf,I,Ac];rw[Ch];have w2:=zX (K:=K) off 0 (g.S-1) U;simp only[I]at w2;rw[w2,Au];simp only[Qo,Aa,bF];exact .ret ⟨rfl,(C.trans u).trans E⟩
structure Me where
 state:Int
 Ai:Int
 Aw:Int
 off:Int
 seq:Int
 sum:Int
def Me.cells(m:Me):List EV:=[I m.state,I m.Ai,I m.Aw,I m.off,I m.seq,I m.sum]
def meB(g:Gm)(m:Me):Bool:=Sr g m.Ai m.off&&(Sr g m.Aw m.off&&(decide (¬Bq g m.Ai=Bq g m.Aw)&&(decide (1<=m.seq)&&(decide (m.seq<=281474976710655)&&(decide (0<=m.sum)&&decide (m.sum<=4294967295))))))
def Rng(z:Int):Prop:=-9223372036854775808<=z/\z<=9223372036854775807
theorem BD{m:Me}(hb:HB h)(hs:m.state=1)(hz:Rng m.Ai)(hm:Rng m.Aw):Ok (Jy K (.agg m.cells) (gV g) h) fun v h'=>v=.bool (meB g m)/\Ext h h':=by
 simp only[Jy,gV,Aa];have X:Ext h ((h.new (.cells m.cells 38)).new (.cells (gL g) 23)):=(Av.new _ _).Db _;have o:((h.new (.cells m.cells 38)).new (.cells (gL g) 23)).get h.next=some (.cells m.cells 38):=by
  rw[Az _ (aN _)];exact Ad _ _
 have C:((h.new (.cells m.cells 38)).new (.cells (gL g) 23)).get (h.next+1)=some (.cells (gL g) 23):=Ad _ _;rw[show(h.new (.cells m.cells 38)).next=h.next+1 from rfl];generalize (h.new (.cells m.cells 38)).new (.cells (gL g) 23)=h1 at X o C⊢;have B:=X.hb hb;have l0:m.cells[0]? = some (I 1):=by rw[<-hs];rfl
 have l1:m.cells[1]? = some (I m.Ai):=rfl;have l2:m.cells[2]? = some (I m.Aw):=rfl;have l3:m.cells[3]? = some (I m.off):=rfl;have l4:m.cells[4]? = some (I m.seq):=rfl;have l5:m.cells[5]? = some (I m.sum):=rfl;have Y:(gL g).length=6:=rfl;have u:=B _ _ o;have J:=B _ _ C;rw[Cy o rfl,l0];simp only[Hf,I,Ac];simp only[show ¬((1:Int)=0) from c_,show ¬((1:Int)=2) from c_,aA,Aa,La,Ac,aC];simp only[Aa,Cq J,As,Cz C rfl,Ak Y,Cq u,Cy o rfl,l1,l3,Hf];rw[show EV.agg (gL g)=gV g from rfl];refine Ok.bE (w_ (K:=K) (C8 B) m.Ai m.off) (fun _ _ p=>p.2) ?_;rintro _ _ h2 ⟨rfl,_⟩ _ T;have L:=T.hb B;have o:=T.at B o;have C:=T.at B C;unfold meB;cases hh:Sr g m.Ai m.off with
 | false=>
  simp only[Aa,Ac,K7,Ld,Iw,Gy,Fy,Ez,bB];exact .ret ⟨rfl,X.trans T⟩
 | true=>
 have ad:rtB g=true:=by unfold Sr at hh;exact((aV _ _).mp hh).1
 have sm:=Jp ad;simp only[Aa,Ac,Cq J,As,Cz C rfl,Ak Y,Cq u,Cy o rfl,l2,l3,Hf];rw[show EV.agg (gL g)=gV g from rfl];refine Ok.bE (w_ (K:=K) (C8 L) m.Aw m.off) (fun _ _ p=>p.2) ?_;rintro _ _ h3 ⟨rfl,_⟩ _ x3;have O:=x3.hb L;have o:=x3.at L o;have C:=x3.at L C;have U:=(X.trans T).trans x3;simp only[bF];cases Sr g m.Aw m.off with
 | false=>
  simp only[Aa,Ac,K7,Ld,Iw,Gy,Fy,Ez,bB];exact .ret ⟨rfl,U⟩
 | true=>
 simp only[Aa,Ac,K7,Cq J,As,Cz C rfl,Ak Y,Cq u,Cy o rfl,l1,Hf,bF];rw[show EV.agg (gL g)=gV g from rfl];refine Ok.bE (J8 sm m.Ai hz _) (fun _ _ p=>p.2) ?_;rintro _ _ h4 ⟨rfl,_⟩ _ x4;have W:=x4.hb O;have o:=x4.at O o;have C:=x4.at O C;simp only[Aa,Ac,Cq J,As,Cz C rfl,Ak Y,Cq u,Cy o rfl,l2,Hf];rw[show EV.agg (gL g)=gV g from rfl];refine Ok.bE (J8 sm m.Aw hm _) (fun _ _ p=>p.2) ?_;rintro _ _ h5 ⟨rfl,_⟩ _ x5;have ao:=x5.hb W;have o:=x5.at W o;have E:=(U.trans x4).trans x5;simp only[Aa,Ac,I,Ld];cases decide (¬Bq g m.Ai=Bq g m.Aw)with
 | false=>
  simp only[Aa,Ac,Iw,Gy,Fy,Ez,bB];exact .ret ⟨rfl,E⟩
 | true=>
 simp only[Aa,Ac,As,Cq u,Cy o rfl,l4,Hf,I,bF,Iw];cases decide (1<=m.seq)with
 | false=>
  simp only[Aa,Ac,Gy,Fy,Ez,bB];exact .ret ⟨rfl,E⟩
 | true=>
 simp only[Aa,Ac,As,Cq u,Cy o rfl,l4,Hf,I,bF,Gy];cases decide (m.seq<=281474976710655)with
 | false=>
  simp only[Aa,Ac,Fy,Ez,bB];exact .ret ⟨rfl,E⟩
 | true=>
 simp only[Aa,Ac,As,Cq u,Cy o rfl,l5,Hf,I,bF,Fy];cases decide (0<=m.sum)with
 | false=>
  simp only[Aa,Ac,Ez,bB];exact .ret ⟨rfl,E⟩
 | true=>
 simp only[Aa,Ac,As,Cq u,Cy o rfl,l5,Hf,I,bF,Ez];exact .ret ⟨rfl,E⟩
structure Mi where
 g:Gm
 dr:J1
 ps:Nat->List Int
 bad:Nat->Int
 a:Int
 b:Int
 u:Int
structure At5(h:Ab)(m D p bl ql np:Nat)(q c:Nat->Nat)(S:Mi)(G H:Nat->Prop):Prop where
 H5:Acs h m D p bl (S.g.D*S.g.Z).toNat S.g S.a S.b S.u S.bad
 G3:Fi h p ql np q c S.g S.ps
 psz:Tc np S.g S.ps
 drv:Gj h D S.dr G
 apart:¬G m/\¬G bl/\¬G p/\¬G ql/\∀d,d<np->¬G (q d)/\¬G (c d)
 sub:(∀i,G i->H i)/\H m/\H bl/\H p/\H ql/\∀d,d<np->H (q d)/\H (c d)
structure So(h:Ab)(m:Nat)(S:Mi)(H:Nat->Prop):Prop where
 lt:∀i,H i->i<h.next
 Ph:∃D p bl ql np q c G,At5 h m D p bl ql np q c S G H
def Mi.E8(S:Mi)(z:Int):Bool:=decide (0<=Bq S.g z)&&decide (S.bad z.toNat=1)
theorem J4{S:Mi}(s:So h m S H)(hb:HB h){z:Int}(C:Rng z):
 Ok (D9 K (.ptr m 0) (I z) h) fun v h'=>v=.bool (S.E8 z)/\Ext h h':=by
 obtain⟨D,p,bl,ql,np,q,c,G,a⟩:=s.Ph;have sm:=a.psz.sm;simp only[D9,Aa,a.H5.pU];refine(J8 sm z C h).Am ?_;rintro _ E ⟨rfl,u⟩;have B:=a.H5.ext fun i o g=>u.at hb g
 unfold Mi.E8;simp only[I,Ac];rcases I8 sm z with hd|⟨d0,d1,d2,d3,d4⟩
 ·rw[hd]
  simp only[show ¬((0:Int)<=-1) from c_,aA,Aa,Su,bB];exact .ret ⟨rfl,u⟩
 ·rw[aO d0]
  simp only[Aa,B.WB];obtain⟨j,rfl⟩:∃j:Nat,z=j:=⟨z.toNat,a_⟩;have hj:j<(S.g.D*S.g.Z).toNat:=a_
  rw[On hj,Cy B.Az3 rfl];rw[show((List.range (S.g.D*S.g.Z).toNat).map fun z=>I (S.bad z))[0+j*1]? = some (I (S.bad j)) by rw[bP,bc,bH,cX hj];rfl];simp only[Hf,I,Ac,Su,Aa,bF];exact .ret ⟨rfl,u⟩
variable {S:Mi}
section
section
variable{p:Nat}{q c:Nat->Nat}(a:At5 h m D p bl ql np q c S G H)(hb:HB h)
include a hb
theorem At5.lts:m<h.next/\bl<h.next/\p<h.next/\ql<h.next/\∀d,d<np->q d<h.next/\c d<h.next:=
 ⟨hb _ _ a.H5.H5,hb _ _ a.H5.Az3,hb _ _ a.G3.G3,hb _ _ a.G3.row,fun d hd=>⟨hb _ _ (a.G3.que d hd),hb _ _ (a.G3.chan d hd)⟩⟩
theorem At5.AU {dr:J1}(d:Gj h' D dr (Bm G h h'))(o:Av G h h'):At5 h' m D p bl ql np q c { S with dr:=dr } (Bm G h h') (Bm H h h'):=by
 obtain⟨l1,T,U,W,E⟩:=a.lts hb;obtain⟨J,L,n3,n4,C⟩:=a.apart;have u:∀{i},¬G i->i<h.next->¬Bm G h h' i:=fun y l z=>by
  rcases z with z|z
  ·exact y z
  ·omega
 refine⟨⟨o.at hb a.H5.H5 J,o.at hb a.H5.Az3 L⟩,?_,a.psz,d,⟨u J l1,u L T,u n3 U,u n4 W,fun d hd=>⟨u (C d hd).1 (E d hd).1,u (C d hd).2 (E d hd).2⟩⟩,?_⟩
 ·exact⟨a.G3.pos,o.at hb a.G3.G3 n3,o.at hb a.G3.row n4,fun d hd=>o.at hb (a.G3.que d hd) (C d hd).1,fun d hd=>o.at hb (a.G3.chan d hd) (C d hd).2,a.G3.inj⟩
 ·obtain⟨s1,s2,X,Y,s5,O⟩:=a.sub
  refine⟨fun i B=>?_,.inl s2,.inl X,.inl Y,.inl s5,fun d hd=>⟨.inl (O d hd).1,.inl (O d hd).2⟩⟩;rcases B with B|B
  ·exact .inl (s1 i B)
  ·exact .inr B
theorem At5.qb(P:Fi h' p ql np q c S.g ps)(Z:Tc np S.g ps)(o:Av (nA np c) h h'):At5 h' m D p bl ql np q c { S with ps:=ps } G H/\Av H h h':=by
 have u:∀i,G i->¬nA np c i:=by
  rintro i B ⟨d,hd,rfl⟩;exact(a.apart.2.2.2.2 d hd).2 B
 refine⟨⟨⟨o.at hb a.H5.H5 (a.G3.wk a.H5.H5 trivial),o.at hb a.H5.Az3 (a.G3.wk a.H5.Az3 trivial)⟩,P,Z,a.drv.chg o u,a.apart,a.sub⟩,o.mono ?_⟩;rintro i ⟨d,hd,rfl⟩;exact(a.sub.2.2.2.2.2 d hd).2
end
theorem So.ext(s:So h m S H)(hb:HB h)(x:Ext h h'):So h' m S H:=by
 obtain⟨D,p,bl,ql,np,q,c,G,a⟩:=s.Ph;have g:∀i o,h.get i=some o->h'.get i=some o:=fun i o g=>x.at hb g
 exact⟨fun i u=>aM (s.lt i u) x.next,D,p,bl,ql,np,q,c,G,a.H5.ext g,a.G3.ext g,a.psz,a.drv.ext x,a.apart,a.sub⟩
end
theorem So.mono{o:Nat->Prop}(s:So h m S H)(f:∀i,H i->o i)(l:∀i,o i->i<h.next):So h m S o:=by
 obtain⟨D,p,bl,ql,np,q,c,G,a⟩:=s.Ph;exact⟨l,D,p,bl,ql,np,q,c,G,a.H5,a.G3,a.psz,a.drv,a.apart,⟨fun i u=>f _ (a.sub.1 i u),f _ a.sub.2.1,f _ a.sub.2.2.1,f _ a.sub.2.2.2.1,f _ a.sub.2.2.2.2.1,fun d hd=>⟨f _ (a.sub.2.2.2.2.2 d hd).1,f _ (a.sub.2.2.2.2.2 d hd).2⟩⟩⟩
def Mi.leave(S:Mi)(z u:Int):Mi × Int:=
 if z = -1\/S.E8 z=true\/u=S.g.S then(S,0)else
 if u=0 then({ S with ps:=(Wv S.g S.g.D.toNat S.ps z).2 },(Wv S.g S.g.D.toNat S.ps z).1)else
 ({ S with dr:=(S.dr.finish z).1 },(S.dr.finish z).2)
theorem XF(A:Bu disp)(hK:10000<K)(hd:16<=d)(O:mJ disp K S.dr)(s:So h m S H)(hb:HB h){z:Int}(hz:Rng z)(u:Int):
 Ok (Ag TT disp K d false 170 [.ptr m 0,I z,I u] h) fun v h'=>v=I (S.leave z u).2/\So h' m (S.leave z u).1 (Bm H h h')/\Av H h h'/\HB h':=by
 obtain⟨e,rfl⟩:=d_ d;rw[Ale A a_];have same:∀C,Ext h C->(z = -1\/S.E8 z=true\/u=S.g.S)->Ok (some (.int .i64 0,C)) fun v h'=>v=I (S.leave z u).2/\So h' m (S.leave z u).1 (Bm H h h')/\Av H h h'/\HB h':=fun C x W=>by
  unfold Mi.leave;rw[aI W];obtain⟨_,D,p,bl,ql,np,q,c,G,a⟩:=s.ext hb x;refine .ret ⟨rfl,⟨Bm.lt s.lt x.next,D,p,bl,ql,np,q,c,G,⟨a.H5,a.G3,a.psz,a.drv,a.apart,⟨fun i o=>.inl (a.sub.1 i o),.inl a.sub.2.1,.inl a.sub.2.2.1,.inl a.sub.2.2.2.1,.inl a.sub.2.2.2.2.1,fun d hd=>⟨.inl (a.sub.2.2.2.2.2 d hd).1,.inl (a.sub.2.2.2.2.2 d hd).2⟩⟩⟩⟩,Ext.to x,x.hb hb⟩
 simp only[KR,I,Ac];by_cases C:z = -1
 ·rw[aO C]
  simp only[Aa,Ac,Lv,H7];exact same h (Av.refl _) (.inl C)
 ·rw[aL C]
  simp only[Aa];refine(J4 (K:=K) s hb hz).Am ?_;rintro _ h2 ⟨rfl,E⟩;have B:=E.hb hb;have s2:=s.ext hb E;obtain⟨X,D,p,bl,ql,np,q,c,G,a⟩:=s2;have e1:Iy (.ptr m (1+2)) h2=fun k=>k (I S.g.S):=by
   funext k;rw[Cy a.H5.H5 rfl];rfl
  cases T:S.E8 z with
  | true=>
   simp only[Aa,Ac,Lv,H7];exact same h2 E (.inr (.inl T))
  | false=>
   simp only[Aa,Ac,Lv];rw[e1];simp only[I,Ac];by_cases hu:u=S.g.S
   ·rw[aO hu]
    simp only[Aa,Ac,H7];exact same h2 E (.inr (.inr hu))
   ·rw[aL hu]
    have W:¬(z = -1\/S.E8 z=true\/u=S.g.S):=by
     rintro(y|y|y)
     ·exact C y
     ·rw[T]at y;cases y
     ·exact hu y
    unfold Mi.leave;rw[aG W];simp only[Aa,Ac,H7];by_cases h0:u=0
    ·rw[aO h0,aI h0]
     simp only[Aa,a.H5.G3];refine(WH (K:=K) A a.G3 B a.psz a_ (d:=e) a_ z hz).Am ?_;rintro _ U ⟨c3,J,rfl,P3,Z3⟩;obtain⟨Y,cH⟩:=a.qb B P3 Z3 c3;have L:Av H h U:=(Ext.to E).trans cH;have hn:=a.psz.nd;subst hn;refine .ret ⟨rfl,So.mono (H:=H) ⟨fun i o=>aM (s.lt i o) L.next,D,p,bl,ql,_,q,c,G,Y⟩ (fun _=>.inl) (Bm.lt s.lt L.next),L,J⟩
    ·rw[aL h0,aG h0]
     simp only[Aa,Xu,a.H5.D8];refine(CV (K:=K) A (d:=e) a_ O a.drv B z).Am ?_;rintro _ U ⟨rfl,d3,c3,J⟩;have Y:=a.AU B d3 c3;have cH:Av H h2 U:=c3.mono a.sub.1;have L:Av H h U:=(Ext.to E).trans cH;refine .ret ⟨rfl,So.mono (H:=Bm H h2 U) ⟨Bm.lt X c3.next,D,p,bl,ql,np,q,c,_,Y⟩ (fun i o=>?_) (Bm.lt s.lt L.next),L,J⟩;rcases o with o|o
     ·exact .inl o
     ·exact .inr ⟨bQ E.next o.1,o.2⟩
theorem XG(D:Nat)(g:Gm)(p bl n:Nat)(a b u o B C:Int):(((Abh D g p bl n a b u).set 265 (I o)).set 266 (I B)).set 267 (I C)=Abh D g p bl n o B C:=by
 unfold Abh;have E:([EV.ptr D 0]++gL g++Bf).length=263:=by rw[aF,Qe];rfl
 rw[eC _ _ a_,E];show((([EV.ptr D 0]++gL g++Bf)++[EV.ptr p 0,.slice bl 0 n n false,I o,I b,I u]).set 266 (I B)).set 267 (I C)=_;rw[eC _ _ a_,E];show(([EV.ptr D 0]++gL g++Bf)++[EV.ptr p 0,.slice bl 0 n n false,I o,I B,I u]).set 267 (I C)=_;rw[eC _ _ a_,E];rfl
theorem At5.AV{p:Nat}{q c:Nat->Nat}(a:At5 h m D p bl ql np q c S G H)(hb:HB h){C E J:Int}(g:h'.get m=some (.cells (Abh D S.g p bl (S.g.D*S.g.Z).toNat C E J) 96))(L:Av (fun i=>i=m) h h'):
 At5 h' m D p bl ql np q c { S with a:=C,b:=E,u:=J } G H:=by
 have e:=a.H5.H5;have k:∀i o,h.get i=some o->(∀l,o≠.cells l 96)->h'.get i=some o:=fun i o B O=>L.at hb B fun y=>by
  subst y;rw[e]at B;cases B;exact O _ rfl
 refine⟨⟨g,k _ _ a.H5.Az3 (by intros;simp)⟩,⟨a.G3.pos,k _ _ a.G3.G3 (by intros;simp),k _ _ a.G3.row (by intros;simp),fun d hd=>k _ _ (a.G3.que d hd) (by intros;simp),fun d hd=>k _ _ (a.G3.chan d hd) (by intros;simp),a.G3.inj⟩,a.psz,a.drv.chg L fun i T y=>?_,a.apart,a.sub⟩;subst y;exact a.apart.1 T
def wA(disp:Nat->Option FT)(K n:Nat):Prop:=∀T:J1,T.ev.length<=n->mJ disp K T
theorem XH:∀(l:List Evt) (D:Dv) (k:List Evt),(kC l D k).ev.length<=l.length
 | [],_,_=>aE _
 | e::r,D,k=>by
  unfold kC;split
  ·exact aE _
  ·have:=XH r (D.Sx e) (k++[e])
   exact Nat.le_succ_of_le this
theorem J1.Bhm(S:J1)(i:Int):(S.begin i).ev.length<=S.ev.length:=by
 unfold J1.begin;split
 ·exact XH _ _ _
 ·exact aE _
theorem Mi.Bgz(S:Mi)(z u:Int):(S.leave z u).1.dr.ev.length<=S.dr.ev.length:=by
 unfold Mi.leave;split
 ·exact aE _
 ·split
  ·exact aE _
  ·exact S.dr.Bhm z
def Mi.close(S:Mi):Mi × Int:=
 (((({ S with a:=-1,b:=-1,u:=0 }:Mi).leave S.a S.u).1.leave S.b S.u).1,if(({ S with a:=-1,b:=-1,u:=0 }:Mi).leave S.a S.u).2=0 then((({ S with a:=-1,b:=-1,u:=0 }:Mi).leave S.a S.u).1.leave S.b S.u).2 else(({ S with a:=-1,b:=-1,u:=0 }:Mi).leave S.a S.u).2)
theorem Azw(A:Bu disp)(hK:10000<K)(hd:17<=d)(o:wA disp K n)(hn:S.dr.ev.length<=n)(s:So h m S H)(hb:HB h)(ha:Rng S.a)(O:Rng S.b):
 Ok (Ag TT disp K d false 131 [.ptr m 0] h) fun v h'=>v=I S.close.2/\So h' m S.close.1 (Bm H h h')/\Av H h h'/\HB h':=by
 obtain⟨e,rfl⟩:=d_ d;rw[Als A a_];obtain⟨lt,D,p,bl,ql,np,q,c,G,a⟩:=s;have ml:=z_ D S.g p bl (S.g.D*S.g.Z).toNat S.a S.b S.u;simp only[IM,Aa,a.H5.oa,a.H5.ob,a.H5.ou];refine Ok.kP a.H5.H5 hb rfl rfl a_ ?_;intro h1 g1 c1 T
 try simp only[Aa]
 refine Ok.kP g1 T rfl rfl (by rw[bM];omega) ?_;intro h2 g2 c2 U
 try simp only[Aa]
 refine Ok.kP g2 U rfl rfl (by rw[bM,bM];omega) ?_;intro h3 g3 c3 W;rw[show EV.int .i64 (-1)=I (-1)from rfl,show EV.int .i64 0=I 0 from rfl,XG]at g3;have E:=(c1.trans c2).trans c3;have a3:=a.AV hb g3 E;have cH:Av H h h3:=E.mono fun i C=>by subst C;exact a.sub.2.1
 have s3:So h3 m { S with a:=-1,b:=-1,u:=0 } H:=⟨fun i C=>aM (lt i C) cH.next,D,p,bl,ql,np,q,c,G,a3⟩;unfold Mi.close;refine(XF (K:=K) (S:={ S with a:=-1,b:=-1,u:=0 }) A hK (d:=e) a_ (o S.dr hn) s3 W ha S.u).Am ?_;have B:=Mi.Bgz { S with a:=-1,b:=-1,u:=0 } S.a S.u;generalize ({ S with a:=-1,b:=-1,u:=0 }:Mi).leave S.a S.u=r at B⊢;rintro _ h4 ⟨rfl,s4,c4,X⟩;refine(XF (K:=K) A hK (d:=e) a_ (o _ (bQ B hn)) s4 X O S.u).Am ?_;rintro _ Y ⟨rfl,s5,c5,J⟩;have L:Av H h h4:=cH.trans c4;have cc:Av H h Y:=L.then c5 fun i C hl=>by
  rcases C with y|y
  ·exact y
  ·have:=cH.next;omega
 have s6:So Y m (r.1.leave S.b S.u).1 (Bm H h Y):=s5.mono (fun i C=>by
  rcases C with(y|y)|y
  ·exact .inl y
  ·have:=cH.next;have:=c5.next;exact .inr ⟨a_,a_⟩
  ·have:=L.next;exact .inr ⟨a_,y.2⟩) (Bm.lt lt cc.next)
 simp only[I,Ac];by_cases h0:r.2=0
 ·rw[aO h0,aI h0]
  simp only[Aa,Qc];exact .ret ⟨rfl,s6,cc,J⟩
 ·rw[aL h0,aG h0]
  simp only[Aa,Qc];exact .ret ⟨rfl,s6,cc,J⟩
def Mi.dropped(S:Mi)(z:Int):Nat->List Int:=if Bq S.g z<0 then S.ps else upd S.ps (Bq S.g z).toNat (Pu z (S.ps (Bq S.g z).toNat))
def Mi.mark(S:Mi)(z:Int):Mi:={ S with bad:=fun i=>if i=z.toNat then 1 else S.bad i,ps:=S.dropped z }
def Mi.Ci(S:Mi)(z:Int):Mi × Int:=
 if Bq S.g z<0 then(S,13)else if S.E8 z=true then(S,16)else
 if ¬z=S.a/\¬z=S.b then(S.mark z,0)else((S.mark z).close.1,if(S.mark z).close.2=34 then 34 else 0)
theorem At5.Brk{p:Nat}{q c:Nat->Nat}(a:At5 h m D p bl ql np q c S G H)(hb:HB h){u:Nat->Int}(g:h'.get bl=some (.cells ((List.range (S.g.D*S.g.Z).toNat).map fun z=>I (u z)) 3))(C:Av (fun i=>i=bl) h h'):
 At5 h' m D p bl ql np q c { S with bad:=u } G H:=by
 have e:=a.H5.Az3;have k:∀i o,h.get i=some o->(∀l,o≠.cells l 3)->h'.get i=some o:=fun i o B E=>C.at hb B fun y=>by
  subst y;rw[e]at B;cases B;exact E _ rfl
 refine⟨⟨k _ _ a.H5.H5 (by intros;simp),g⟩,⟨a.G3.pos,k _ _ a.G3.G3 (by intros;simp),k _ _ a.G3.row (by intros;simp),fun d hd=>k _ _ (a.G3.que d hd) (by intros;simp),fun d hd=>k _ _ (a.G3.chan d hd) (by intros;simp),a.G3.inj⟩,a.psz,a.drv.chg C fun i J y=>?_,a.apart,a.sub⟩;subst y;exact a.apart.2.1 J
theorem Bm.up{o h2:Ab}(a:h.next<=o.next)(b:o.next<=h2.next)(g:Bm H o h2 i):Bm H h h2 i:=by
 rcases g with y|y
 ·exact .inl y
 ·exact .inr ⟨a_,y.2⟩
theorem Ap2(A:Bu disp)(hK:10000<K)(hd:18<=d)(L:wA disp K n)(hn:S.dr.ev.length<=n)(s:So h m S H)(hb:HB h)(ha:Rng S.a)(ae:Rng S.b){z:Int}(hz:Rng z):
 Ok (Ag TT disp K d false 98 [.ptr m 0,I z] h) fun v h'=>v=I (S.Ci z).2/\So h' m (S.Ci z).1 (Bm H h h')/\Av H h h'/\HB h':=by
 obtain⟨e,rfl⟩:=d_ d;rw[Ac6 A a_];obtain⟨lt,D,p,bl,ql,np,q,c,G,a⟩:=s;have s:So h m S H:=⟨lt,D,p,bl,ql,np,q,c,G,a⟩;have sm:=a.psz.sm;simp only[Vj,Aa,a.H5.pU];refine(J8 sm z hz h).Am ?_;rintro _ h1 ⟨rfl,O⟩;have o:=O.hb hb;have s1:=s.ext hb O;unfold Mi.Ci;simp only[I,Ac];rcases I8 sm z with ag|⟨d0,d1,d2,d3,d4⟩
 ·rw[ag]
  simp only[show(-1:Int)<0 from c_,aC,Aa,bK];exact .ret ⟨rfl,s1.mono (fun _=>.inl) (Bm.lt lt O.next),Ext.to O,o⟩
 ·rw[aL (show ¬Bq S.g z<0 from a_),aG (show ¬Bq S.g z<0 from a_)]
  simp only[Aa];refine(J4 (K:=K) s1 o hz).Am ?_;rintro _ h2 ⟨rfl,x2⟩;have C:=x2.hb o;have E:=O.trans x2;cases ax:S.E8 z with
  | true=>
   simp only[Aa,bK];exact .ret ⟨rfl,(s1.ext o x2).mono (fun _=>.inl) (Bm.lt lt E.next),Ext.to E,C⟩
  | false=>
   simp only[Aa,aX,ak,Sn];obtain⟨ay,D,p,bl,ql,np,q,c,G,a⟩:=s1.ext o x2;obtain⟨j,rfl⟩:∃j:Nat,z=j:=⟨z.toNat,a_⟩;have hj:j<(S.g.D*S.g.Z).toNat:=a_
   rw[a.H5.WB,On hj,bP,bc];refine Ok.kP a.H5.Az3 C rfl rfl (by rw[bk,fW];exact hj) ?_;intro h3 g3 c3 T;have U:((List.range (S.g.D*S.g.Z).toNat).map fun z=>I (S.bad z)).set j (.int .i64 1)=(List.range (S.g.D*S.g.Z).toNat).map fun z=>I ((S.mark j).bad z):=by
    apply dF;intro i;rw[cW,bH,bH,bk,fW];by_cases u:j=i
    ·subst u
     rw[aI rfl,aI hj,cX hj];simp[Mi.mark,I]
    ·rw[aG u]
     rcases dQ i (S.g.D*S.g.Z).toNat with hl|hg
     ·rw[cX hl]
      have:¬i=j:=fun y=>u y.symm
      simp[Mi.mark,this]
     ·rw[cD (by rw[fW];exact hg)];rfl
   rw[U]at g3;have a3:=a.Brk C g3 c3;have ah:Av H h h3:=(Ext.to E).trans (c3.mono fun i u=>by subst u;exact a.sub.2.2.1)
   try simp only[Aa]
   rw[a3.H5.G3];refine(Bp5 (K:=K) A a_ a3.G3 T a3.psz (d:=e) a_ j hz).Am ?_;rintro _ h4 ⟨⟨er,rfl⟩,c4,W,P4,Z4⟩;obtain⟨X,cH⟩:=a3.qb T P4 Z4 c4;have X:At5 h4 m D p bl ql np q c (S.mark j) G H:=X;have Y:Av H h h4:=ah.trans cH;have s4:So h4 m (S.mark j) H:=⟨fun i u=>aM (lt i u) Y.next,D,p,bl,ql,np,q,c,G,X⟩
   try simp only[Aa]
   rw[X.H5.oa];have close:¬(¬(j:Int)=S.a/\¬(j:Int)=S.b)->Ok (Lu (Ag TT disp K e false) (Ag TT disp K e true) K (.ptr m 0) h4) fun v h'=>v=I (if ¬(j:Int)=S.a/\¬(j:Int)=S.b then(S.mark j,(0:Int))else((S.mark j).close.1,if(S.mark j).close.2=34 then 34 else 0)).2/\So h' m (if ¬(j:Int)=S.a/\¬(j:Int)=S.b then(S.mark j,(0:Int))else((S.mark j).close.1,if(S.mark j).close.2=34 then 34 else 0)).1 (Bm H h h')/\Av H h h'/\HB h':=by
    intro ai;rw[aG ai];simp only[Lu,dr];refine(Azw (K:=K) A hK (d:=e) a_ L (S:=S.mark j) hn s4 W ha ae).Am ?_;rintro _ h5 ⟨rfl,s5,c5,aa⟩;have J:=Y.trans c5;have s6:=s5.mono (fun i u=>Bm.up Y.next c5.next u) (Bm.lt lt J.next);simp only[I,Ac];by_cases B:(S.mark j).close.2=34
    ·rw[aO B,aI B]
     simp only[Aa];exact .ret ⟨rfl,s6,J,aa⟩
    ·rw[aL B,aG B]
     simp only[Aa,Rx];exact .ret ⟨rfl,s6,J,aa⟩
   simp only[I,Ac]at close⊢;rw[show(S.mark (j:Int)).a=S.a from rfl];by_cases e1:(j:Int)=S.a
   ·rw[show decide (¬(j:Int)=S.a)=false from aL fun y=>y e1]
    simp only[Aa,Ac,Lr];exact close fun y=>y.1 e1
   ·rw[show decide (¬(j:Int)=S.a)=true from aO e1]
    simp only[Aa,Ac];rw[X.H5.ob];simp only[I,Ac,Lr,Aa];rw[show(S.mark (j:Int)).b=S.b from rfl];by_cases e2:(j:Int)=S.b
    ·rw[show decide (¬(j:Int)=S.b)=false from aL fun y=>y e2]
     simp only[Aa];exact close fun y=>y.2 e2
    ·rw[show decide (¬(j:Int)=S.b)=true from aO e2]
     simp only[Aa];rw[aI ⟨e1,e2⟩];exact .ret ⟨rfl,s4.mono (fun _=>.inl) (Bm.lt lt Y.next),Y,W⟩
def jV(ps:Nat->List Int)(n:Nat):Option (Int × Int × (Nat->List Int)):=
 if F2 ps n=0 then none else
 some ((ps (Ek ps (-1) n).toNat).headD 0,(ps (Ek ps (Ek ps (-1) n) n).toNat).headD 0,
  upd (upd ps (Ek ps (-1) n).toNat (ps (Ek ps (-1) n).toNat).tail) (Ek ps (Ek ps (-1) n) n).toNat (ps (Ek ps (Ek ps (-1) n) n).toNat).tail)
def Mi.ready(S:Mi):Mi × Int:=
 if ¬S.a = -1/\S.u<S.g.S then(S,0)else
 if ¬S.dr.flush.2=0 then({ S with dr:=S.dr.flush.1 },S.dr.flush.2)else
 match jV S.ps S.g.D.toNat with
 | none=>({ S with dr:=S.dr.flush.1 },40)
 | some (x,y,f_)=>({ S with dr:=S.dr.flush.1,ps:=f_,a:=x,b:=y,u:=0 },0)
theorem Azt(A:Bu disp)(hK:10000<K)(hd:16<=d)(W:wA disp K n)(hn:S.dr.ev.length<=n)(s:So h m S H)(hb:HB h):
 Ok (Ag TT disp K d false 134 [.ptr m 0] h) fun v h'=>v=I S.ready.2/\So h' m S.ready.1 (Bm H h h')/\Av H h h'/\HB h':=by
 obtain⟨e,rfl⟩:=d_ d;rw[Akf A a_];obtain⟨lt,D,p,bl,ql,np,q,c,G,a⟩:=s;have s:So h m S H:=⟨lt,D,p,bl,ql,np,q,c,G,a⟩;have ae:=a.psz.nd;subst ae;have es:Iy (.ptr m (1+2)) h=fun k=>k (I S.g.S):=by
  funext k;rw[Cy a.H5.H5 rfl];rfl
 have two:¬(¬S.a = -1/\S.u<S.g.S)->Ok (P9 (Ag TT disp K e false) (Ag TT disp K e true) K (.ptr m 0) h) fun v h'=>v=I S.ready.2/\So h' m S.ready.1 (Bm H h h')/\Av H h h'/\HB h':=by
  intro af;unfold Mi.ready;rw[aG af];simp only[P9,Aa,a.H5.D8];refine(CW (K:=K) A a_ (d:=e) a_ (W _ hn) a.drv hb).Am ?_;rintro _ h2 ⟨rfl,d2,c2,B⟩;have J:=a.AU hb d2 c2;have C:Av H h h2:=c2.mono a.sub.1;have L:=Bm.lt lt C.next
  simp only[I,Ac];by_cases hf:S.dr.flush.2=0
  ·rw[aL (show ¬¬S.dr.flush.2=0 from fun y=>y hf),aG (show ¬¬S.dr.flush.2=0 from fun y=>y hf)]
   simp only[Aa,Xg,J.H5.G3];refine(Bql (K:=K) J.G3 B J.psz a_).Am ?_;rintro _ h3 ⟨c3,O,hh⟩;rcases hh with⟨p0,rfl,P3⟩|⟨x,y,vx,vy,r,t,hp,f1,f2,hx,hy,az,e1,e2,rfl,P3,Z3⟩
   ·obtain⟨Y,U⟩:=J.qb B P3 J.psz c3
    have cc:Av H h h3:=C.grow U;have hg:jV S.ps S.g.D.toNat=none:=by unfold jV;rw[aI p0]
    rw[hg];simp only[Aa,I,Ac];simp only[show ¬((15:Int)=0) from c_,aQ,aC,Aa];refine .ret ⟨rfl,So.mono (H:=Bm H h h2) ⟨fun i o=>aM (L i o) c3.next,D,p,bl,ql,_,q,c,_,Y⟩ (fun i o=>Bm.le c3.next o) (Bm.lt lt cc.next),cc,O⟩
   ·obtain⟨Y,U⟩:=J.qb B P3 Z3 c3
    have cc:Av H h h3:=C.grow U;have hg:jV S.ps S.g.D.toNat=some (vx,vy,upd (upd S.ps x r) y t):=by
     unfold jV;have e1:S.ps x=vx::r:=e1;have e2:S.ps y=vy::t:=e2;have f1:Ek S.ps (-1) S.g.D.toNat=x:=f1;have f2:Ek S.ps x S.g.D.toNat=y:=f2;rw[aG hp,f1,f2];simp only[bD,e1,e2,List.headD_cons,List.tail_cons]
    rw[hg];simp only[Aa,I,Ac];simp only[aB,aA,Aa,X7];have ml:=z_ D S.g p bl (S.g.D*S.g.Z).toNat S.a S.b S.u;refine Ok.kP Y.H5.H5 O rfl rfl (by show 265<(Abh D S.g p bl (S.g.D*S.g.Z).toNat S.a S.b S.u).length;omega) ?_;intro h4 g4 c4 aj
    try simp only[Aa]
    refine Ok.kP g4 aj rfl rfl (by rw[bM];show 266<(Abh D S.g p bl (S.g.D*S.g.Z).toNat S.a S.b S.u).length;omega) ?_;intro h5 g5 c5 al
    try simp only[Aa]
    refine Ok.kP g5 al rfl rfl (by rw[bM,bM];show 267<(Abh D S.g p bl (S.g.D*S.g.Z).toNat S.a S.b S.u).length;omega) ?_;intro h6 g6 c6 ao;have g6:h6.get m=some (.cells ((((Abh D S.g p bl (S.g.D*S.g.Z).toNat S.a S.b S.u).set 265 (I vx)).set 266 (I vy)).set 267 (I 0)) 96):=g6;rw[XG]at g6;have E:=(c4.trans c5).trans c6;have a6:=Y.AV O g6 E;have X:Av H h h6:=cc.then (E.mono (T:=fun i=>i=m) fun i o=>o) fun i o _=>by subst o;exact a.sub.2.1
    exact .ret ⟨rfl,So.mono (H:=Bm H h h2) ⟨fun i o=>aM (L i o) (bQ c3.next E.next),D,p,bl,ql,_,q,c,_,a6⟩ (fun i o=>Bm.le (bQ c3.next E.next) o) (Bm.lt lt X.next),X,ao⟩
  ·rw[aO hf,aI hf]
   simp only[Aa];exact .ret ⟨rfl,⟨L,D,p,bl,ql,_,q,c,_,J⟩,C,B⟩
 have done:¬S.a = -1/\S.u<S.g.S->Ok (some (.int .i64 0,h)) fun v h'=>v=I S.ready.2/\So h' m S.ready.1 (Bm H h h')/\Av H h h'/\HB h':=fun hy=>by
  unfold Mi.ready;rw[aI hy];exact .ret ⟨rfl,s.mono (fun _=>.inl) (Bm.lt lt (aE _)),Av.refl _,hb⟩
 simp only[LS,Aa,a.H5.oa,I,Ac];by_cases h1:S.a = -1
 ·rw[aL (show ¬¬S.a = -1 from fun y=>y h1)]
  simp only[Aa,Lo,Ac];exact two fun y=>y.1 h1
 ·rw[aO h1]
  simp only[Aa,Ac,a.H5.ou,es,I];by_cases h2:S.u<S.g.S
  ·rw[aO h2]
   simp only[Lo,Aa];exact done ⟨h1,h2⟩
  ·rw[aL h2]
   simp only[Lo,Aa];exact two fun y=>h2 y.2
theorem wB {x:List EV}(o:x.length=64)(u:y.length=64):(Tx x y).length=64:=by unfold Tx;rw[List.length_zipWith,o,u];rfl
theorem U8.at {x:List EV}(u:U8 x)(o:i<x.length):∃a:Nat,a<256/\x[i]=.int .u8 (Int.ofNat a):=by
 obtain⟨l,B,rfl⟩:=u;rw[Bi]at o;exact⟨l[i],B _ (bI _),by simp[Be]⟩
theorem U8.xor {x:List EV}(o:U8 x)(u:U8 y):U8 (Tx x y):=by
 obtain⟨a,B,rfl⟩:=o;obtain⟨b,hb,rfl⟩:=u;refine⟨List.zipWith Nat.xor a b,fun c C=>?_,?_⟩
 ·obtain⟨i,E,rfl⟩:=List.getElem_of_mem C
  rw[List.getElem_zipWith];rw[List.length_zipWith]at E;exact dN (n:=8) (B _ (bI _)) (hb _ (bI _))
 ·unfold Tx Be
  rw[List.zipWith_map,List.map_zipWith];rfl
theorem Bnm{b2:Nat}{x:List EV}(hx:x.length=64)(hy:y.length=64)(ux:U8 x)(uy:U8 y)(l2:h0.next<=b2)(l3:b2<b3)(l4:b3<b4):∀(m i:Nat) (h:Ab) (l:List EV),64-i<m->i<=64->HB h->Ext h0 h ->
 h.get b2=some (.cells l 29)->l.length=64->(∀j,j<64->l[j]? = if j<i then(Tx x y)[j]? else x[j]?)->h.get b3=some (.cells y 29)->h.get b4=some (.cells Uu 29) ->
 Ok (Lb K m (.ptr b2 0) (.ptr b3 0) (.ptr b4 0) (.int .i64 (i:Int)) h) fun v h'=>v=.agg (Tx x y)/\Ext h0 h'/\HB h':=by
 intro m;induction m with
 | zero=>intro i h l hm;omega
 | succ m ih=>
  intro i h l hm hi hb c L u hj O T;have o:=hb _ _ L;have U:=hb _ _ O;have B:=hb _ _ T;simp only[Lb,Ac];by_cases C:i<64
  ·rw[aO (show(i:Int)<64 from a_)]
   obtain⟨a,ha,Y⟩:=ux.at (i:=i) a_;obtain⟨b,W,eb⟩:=uy.at (i:=i) a_;have e2:l[i]? = some (.int .u8 (Int.ofNat a)):=by rw[hj i C,aG (bT _),aD a_,Y]
   have e3:y[i]? = some (.int .u8 (Int.ofNat b)):=by rw[aD a_,eb]
   have ex:(Tx x y)[i]? = some (Nk .u8 (a ^^^ b)):=by
    unfold Tx;rw[List.getElem?_zipWith,aD (show i<x.length from a_),Y,e3];rfl
   simp only[Aa,IF,Vs C,bP,bc];rw[Hl o,Aj L rfl e2,Hl U,Aj O rfl e3,WT ha W,Hg];refine Ok.hM L rfl rfl a_ ?_;simp only[IE,Ac];rw[Ch];refine ih (i+1) _ (l.set i (Nk .u8 (a ^^^ b))) a_ a_ (hb.put o _) (c.Ar (.inr l2) o _) (Ae _ _ _) (by rw[bM];exact u) (fun j X=>?_) ?_ ?_
   ·rw[cW]
    by_cases E:i=j
    ·subst E;rw[aI rfl,aI a_,aI a_,ex]
    ·rw[aG E,hj j X]
     by_cases J:j<i
     ·rw[aI J,aI a_]
     ·rw[aG J,aG a_]
   ·rw[Af _];exact O
   ·rw[Af _];exact T
  ·have:i=64:=a_
   subst this;have el:l=Tx x y:=by
    refine dF fun j=>?_
    by_cases J:j<64
    ·rw[hj j J,aI J]
    ·rw[cD a_,cD (by rw[wB hx hy];omega)]
   subst el;simp only[show ¬((64:Nat):Int)<64 from a_,aA,Aa,ID];rw[Cz L rfl,Ak u];simp only[Aa];refine Ok.st (Tx x y) T rfl (by show Gk (Tx x y)=64;rw[Bg,u]) (Bo (by rw[K8];exact u.symm)) ?_;rw[Rg (Ae _ _ _) kR.1 kR.2 u];exact .ret ⟨rfl,c.Ar (.inr a_) B _,hb.put B _⟩
theorem XI{x:List EV}(o:x.length=64)(B:y.length=64)(C:U8 x)(E:U8 y)(hb:HB h)(hK:100<K):
 Ok (Pe K (.agg x) (.agg y) h) fun v h'=>v=.agg (Tx x y)/\Ext h h'/\HB h':=by
 simp only[Pe,Aa];have u:Ext h (((h.new (.cells x 29)).new (.cells y 29)).new (.cells (List.replicate 64 (.int .u8 0)) 29)):=((Av.new _ _).Db _).Db _;refine Bnm (h0:=h) (x:=x) (y:=y) o B C E (b2:=h.next) (b3:=h.next+1) (b4:=h.next+2) (aE _) a_ a_ K 0 _ x a_ a_ (u.hb hb) u ?_ o (fun j _=>by rw[aG (cC _)]) ?_ (Ad _ _)
 ·rw[Az _ (by show h.next<h.next+1+1;omega),Az _ (by show h.next<h.next+1;omega)];exact Ad _ _
 ·rw[Az _ (by show h.next+1<h.next+1+1;omega)];exact Ad _ _
theorem Bh4(A:Bu disp){e:Nat}(he:2<=e){x p:List EV}(hg:h.get b=some (.cells p 29))(E:x.length=64)(hp:p.length=64)(T:U8 x)(up:U8 p)(hb:HB h)(hK:100<K):
 Ok (Ue (Ag TT disp K e false) (Ag TT disp K e true) (.func 37 [] [.ptr b 0]) [.agg x] h) fun v h'=>v=.agg (Tx x p)/\Ext h h'/\HB h':=by
 obtain⟨d,rfl⟩:=d_ e;show Ok (Ag TT disp K (d+1) false 37 [.agg x,.ptr b 0] h) _;rw[Ali A a_];simp only[I',Aa];have C:Ext h ((h.new (.cells x 29)).new (.cells (List.replicate 64 (.int .u8 0)) 29)):=(Av.new _ _).Db _;have L:((h.new (.cells x 29)).new (.cells (List.replicate 64 (.int .u8 0)) 29)).get h.next=some (.cells x 29):=by
  rw[Az _ (by show h.next<h.next+1;omega)];exact Ad _ _
 have u:((h.new (.cells x 29)).new (.cells (List.replicate 64 (.int .u8 0)) 29)).get (h.next+1)=some (.cells Uu 29):=Ad _ _;rw[show(h.new (.cells x 29)).next=h.next+1 from rfl];generalize (h.new (.cells x 29)).new (.cells (List.replicate 64 (.int .u8 0)) 29)=W at C L u⊢;have B:=C.hb hb;have U:=C.at hb hg;rw[Cz L rfl,Ak E];simp only[Aa];rw[Cz U rfl,Ak hp];simp only[Aa];refine(XI (K:=K) E hp T up B hK).Am ?_;rintro _ h2 ⟨rfl,O,o⟩;have u:=O.at B u;have J:=wB E hp;refine Ok.st (Tx x p) u rfl (by show Gk (Tx x p)=64;rw[Bg,J]) (Bo (by rw[K8];exact J.symm)) ?_;rw[Rg (Ae _ _ _) kR.1 kR.2 J];exact .ret ⟨rfl,(C.trans O).Ar (.inr a_) (o _ _ u) _,o.put (o _ _ u) _⟩
theorem XJ:∀(l vs:List EV),vs.length<=l.length->J3 l vs=some (vs++l.drop vs.length)
 | l,[],_=>by cases l<;>rfl
 | [],_::_,h=>by simp at h
 | a::l,v::vs,h=>by
  show(match J3 l vs with|some x=>some (v::x)|none=>none)=_;rw[XJ l vs (by simpa using h)];rfl
theorem XK:∀(l:List EV) (off:Nat) (vs:List EV),off+vs.length<=l.length->Gc l off vs=some (l.take off++vs++l.drop (off+vs.length))
 | [],off,vs,h=>by
  have h0:off=0/\vs = []:=by simp at h;exact⟨h.1,h.2⟩
  obtain⟨rfl,rfl⟩:=h0;rfl
 | a::l,0,vs,h=>by
  show J3 (a::l) vs=_;rw[XJ _ _ a_];simp
 | a::l,off+1,vs,h=>by
  show(match Gc l off vs with|some x=>some (a::x)|none=>none)=_;rw[XK l off vs (by simp at h;omega)];simp only[gJ,List.cons_append];rw[show off+1+vs.length=(off+vs.length)+1 from a_,List.drop_succ_cons]
theorem ub {l vs:List EV}(h:off+vs.length<=l.length):Nb l off vs=some (l.take off++vs++l.drop (off+vs.length)):=by rw[U6,XK _ _ _ h]
theorem wD:∀(l:List (List EV)),(∀x∈l,x.length=n)->l.flatten.length=l.length*n
 | [],_=>by simp
 | a::l,hw=>by
  rw[cK,aF,wD l fun x o=>hw x (aT _ o),hw a (aW ..),bJ,gH];omega
theorem AW{l:List (List EV)}(hw:∀x∈l,x.length=n)(hj:j<l.length):l.flatten=(l.take j).flatten++l[j]++(l.drop (j+1)).flatten/\(l.take j).flatten.length=j*n/\l[j].length=n:=by
 refine⟨?_,?_,hw _ (bI _)⟩
 ·have:l=l.take j++l[j]::l.drop (j+1):=by rw[<-dH hj,List.take_append_drop]
  conv=>lhs;rw[this]
  rw[dW,cK,bZ]
 ·rw[wD (n:=n) _ fun x o=>hw x (bV o),bW,eU a_]
theorem Bir{l:List (List EV)}(hw:∀x∈l,x.length=n)(hj:j<l.length):Ou l.flatten (j*n) n=some l[j]:=by
 obtain⟨e,o,h2⟩:=AW hw hj;rw[e,F9 (by rw[aF,aF,o,h2];omega),<-o,bZ,gS,<-h2,fN]
theorem BI{l:List (List EV)}(hw:∀x∈l,x.length=n)(hj:j<l.length){v:List EV}(u:v.length=n):Nb l.flatten (j*n) v=some (l.set j v).flatten:=by
 obtain⟨e,o,h2⟩:=AW hw hj;have e2:(l.set j v).flatten=(l.take j).flatten++v++(l.drop (j+1)).flatten:=by
  rw[List.set_eq_take_append_cons_drop,aI hj,dW,cK,bZ]
 have B:l.flatten.length=j*n+n+(l.drop (j+1)).flatten.length:=by rw[e,aF,aF,o,h2]
 have t1:l.flatten.take (j*n)=(l.take j).flatten:=by rw[e,bZ,<-o,fN]
 have t2:l.flatten.drop (j*n+n)=(l.drop (j+1)).flatten:=by
  rw[show j*n+n=((l.take j).flatten++l[j]).length by rw[aF,o,h2],e,gS]
 rw[ub (by rw[B,u];omega),u,t1,t2,e2]
def Zn.change(Z:Zn)(off:Int)(p:List EV):Zn:=if 0<=off/\off<Z.l.length then { Z with l:=Z.l.set off.toNat (Tx (((Z.l[off.toNat]?).getD Uu)) p) }else Z
theorem Zn.Wf.change{size:Nat}(w:Z.Wf size)(off:Int){p:List EV}(hp:U8 p):(Z.change off p).Wf size:=by
 unfold Zn.change;split
 ·refine⟨fun x o=>?_,w.st,by simp only[bM];exact w.safe,by simp only[bM];exact w.len,by simp only[bM];exact w.room⟩
  rcases cZ o with o|o
  ·exact w.u8 x o
  ·rw[o]
   refine U8.xor ?_ hp;cases hg:Z.l[off.toNat]? with
   | none=>exact U8.zs
   | some y=>exact w.u8 _ (bh hg)
 ·exact w
theorem A2l(A:Bu disp){e:Nat}(he:2<=e){z q size:Nat}(C:Fj h z q size Z)(w:Z.Wf size)(hs:size<=64)(hb:HB h)(off:Int){p:List EV}(hg:h.get b=some (.cells p 29))(hp:p.length=64)(up:U8 p)(hK:100<K):
 Ok (Kl (Ag TT disp K e false) (Ag TT disp K e true) K (.ptr z 0) (I off) (.func 37 [] [.ptr b 0]) h) fun v h'=>v=I (if 0<=off/\off<Z.l.length then 0 else 31)/\Fj h' z q size (Z.change off p)/\Av (fun j=>Z.l≠[]/\j=q) h h'/\HB h':=by
 obtain⟨s,g,r⟩:=C.Ai;have X:=hb _ _ g;have no:¬(0<=off/\off<Z.l.length)->Ok (some (I 31,h)) fun v h'=>v=I (if 0<=off/\off<Z.l.length then 0 else 31)/\Fj h' z q size (Z.change off p)/\Av (fun j=>Z.l≠[]/\j=q) h h'/\HB h':=fun Y=>by
  unfold Zn.change;rw[aG Y,aG Y];exact .ret ⟨rfl,C,Av.refl _,hb⟩
 simp only[Kl,I,Ac];by_cases h0:off<0
 ·rw[aO h0]
  simp only[Aa,Ac,F6];exact no fun y=>a_
 ·rw[aL h0]
  simp only[Aa,Ac,Cy g rfl,r.Ip];by_cases W:(Z.l.length:Int)<=off
  ·rw[aO W]
   simp only[Aa,F6];exact no fun y=>a_
  ·rw[aL W]
   obtain⟨j,rfl⟩:∃j:Nat,off=j:=⟨off.toNat,a_⟩;have hj:j<Z.l.length:=a_
   have O:=r.block a_;have lq:=hb _ _ O;have u:(0:Int)<=(j:Int)/\(j:Int)<Z.l.length:=a_
   unfold Zn.change;rw[aI u,aI u,bD,aD hj,Option.getD_some];obtain⟨_,B⟩:=(AW C.wf hj).2;simp only[Aa,F6,Nm,As];rw[Hl X,Cy g rfl];simp only[Aa,As];rw[Hl X,Cy g rfl];simp only[Aa,As,r.ix hj];rw[Hl lq,Cp O rfl (Bir C.wf hj)];simp only[As];refine Ok.bE (Bh4 (K:=K) A he (h:=h.lift) (by rw[Bx];exact hg) B hp (w.u8 _ (bI _)) up (C8 hb) hK) (fun _ _ p=>p.2.1) ?_;rintro _ W h2 ⟨rfl,_,aa⟩ sm T;have E:=T.hb hb;have J:=T.at hb O;have U:=wB B hp;rw[Hg,Bpb (v:=.agg (Tx Z.l[j] p)) J rfl (by show Gk (Tx Z.l[j] p)=64;rw[Bg,U]) (BI C.wf hj U)];have L:=E _ _ J;refine .ret ⟨rfl,⟨⟨s,?_,?_⟩,fun x o=>?_⟩,(Ext.to T).Ar (.inl ⟨fun y=>by rw[y]at hj;simp at hj,rfl⟩) L _,E.put L _⟩
   ·rw[Af _ (Ba O g (by simp))];exact T.at hb g
   ·refine .inr ⟨by rw[bM];omega,by rw[bM];exact r.slice a_,Ae _ _ _,?_⟩
    rw[wD (n:=64),bM];intro x o;rcases cZ o with o|o
    ·exact C.wf x o
    ·rw[o];exact U
   ·rcases cZ o with o|o
    ·exact C.wf x o
    ·rw[o];exact U
theorem VM(A:Bu disp)(hd:4<=d){D:Dv}(s:Hu h V D F)(hb:HB h)(hK:100<K)(z off:Int){p:List EV}(hp:p.length=64)(up:U8 p):
 Ok (Ag TT disp K d false 12 [.ptr V 0,I z,I off,.agg p] h) fun v h'=>(∃n:Int,v=I n/\(n=0↔D.has z=true/\0<=off/\off<(D.zs z.toNat).l.length))/\Hu h' V (D.G8 z off p) (Bm F h h')/\Av F h h'/\HB h':=by
 obtain⟨e,rfl⟩:=d_ d;rw[Aoe A a_];simp only[I4,Aa];have u:Ext h (h.new (.cells p 29)):=Av.new _ _;have J:(h.new (.cells p 29)).get h.next=some (.cells p 29):=Ad _ _
 have o:HB (h.new (.cells p 29)):=hb.new _;have s1:=s.ext u;generalize h.new (.cells p 29)=U at u J o s1⊢;rw[tN s1];unfold Dv.G8;cases L:D.has z with
 | false=>
  simp only[Aa,aX,hH,ak];exact .ret ⟨⟨13,rfl,by simp⟩,s1.grow s.lt u.next,Ext.to u,o⟩
 | true=>
  have W:=dG L;obtain⟨j,rfl⟩:∃j:Nat,z=j:=⟨z.toNat,a_⟩;have hj:j<D.n:=a_
  obtain⟨w,wl,zl,X,q,a,b⟩:=s1;have w':=w.zs j hj;simp only[Aa,I2,a.list,a.rn hj,bD,hJ];obtain⟨f,rfl⟩:=d_ e;rw[Xc A a_];refine(A2l (K:=K) (e:=f) A a_ (a.Ai j hj) w' w.size o off J hp up hK).Am ?_;rintro _ h2 ⟨rfl,O,c2,B⟩;obtain⟨d3,C⟩:=Hu.Ai w a b wl o hj (w'.change off up) O (c2.mono fun _=>.inr) B (fun y=>.inr ⟨rfl,fun e=>y (by unfold Zn.change;split<;>simp[e])⟩);refine .ret ⟨⟨_,rfl,by split<;>simp_all⟩,?_,(Ext.to u).trans C,B⟩;have d4:Hu h2 V (D.set j ((D.zs j).change off p)) (Bm F h h2):=d3.mono (fun i T=>by
   rcases T with y|y
   ·exact .inl y
   ·exact .inr ⟨bQ u.next y.1,y.2⟩) (Bm.lt s.lt (bQ u.next C.next))
  unfold Zn.change at d4;split
  next E=>
   rw[aI E]at d4;exact d4
  next E=>
   rw[aG E]at d4;have e:D.set j (D.zs j)=D:=by
    unfold Dv.set;have:Hd D.zs j (D.zs j)=D.zs:=by funext i;unfold Hd;split<;>simp_all
    rw[this]
   rw[e]at d4;exact d4
theorem Evt.len {e:Evt}(w:e.Wf):e.cells.length=68:=by unfold Evt.cells;rw[aF,w.len];rfl
theorem Evt.XL {e:Evt}(w:e.Wf):Ou e.cells 4 64=some e.pat:=by
 rw[F9 (by rw[Evt.len w];omega)];show some ((e.pat).take 64)=_;rw[bS (by rw[w.len];omega)]
theorem Evt.one(e:Evt):e.cells[0]? = some (I e.Ph)/\e.cells[1]? = some (I e.kind)/\e.cells[2]? = some (I e.Ai)/\e.cells[3]? = some (I e.off):=⟨rfl,rfl,rfl,rfl⟩
theorem Gj.call {o h4:Ab}{M qc qh:Nat}{cs hs:EV}{S:J1}{dv:Dv}(s:Gj h D S G)(a:Af3 h D V M qc qh cs hs ms S F G)(hb:HB h)(d3:Hu o V dv (Bm F h.lift o))(sm:iW o h4)(c4:Av F h h4):
 Gj h4 D { S with dv:=dv } (Bm G h h4)/\Av G h h4/\Af3 h4 D V M qc qh cs hs ms { S with dv:=dv } (Bm F h h4) (Bm G h h4):=by
 have d4:Hu h4 V dv (Bm F h h4):=by
  have:=d3.frame (h':=h4) (by rw[sm.next];exact aE _) fun j _=>sm.get j
  refine this.mono (fun j hj=>?_) (Bm.lt a.dev.lt c4.next);rcases hj with y|y
  ·exact .inl y
  ·exact .inr ⟨y.1,by rw[sm.next];exact y.2⟩
 have:=s.put a hb d4 c4;exact⟨this.1,this.2,a.put hb d4 c4⟩
theorem A5o(A:Bu disp)(hK:1000<K)(hd:6<=d){S:J1}(s:Gj h D S G)(hb:HB h){e:Evt}(w:e.Wf):
 Ok (Ag TT disp K d false 157 [.ptr D 0,.agg e.cells] h) fun v h'=>Gj h' D { S with dv:=S.dv.G8 e.Ai e.off e.pat } (Bm G h h')/\Av G h h'/\HB h':=by
 obtain⟨dd,rfl⟩:=d_ d;rw[Aqt A a_];simp only[JO,Aa];have x1:Ext h (h.new (.cells e.cells 31)):=Av.new _ _;have C:(h.new (.cells e.cells 31)).get h.next=some (.cells e.cells 31):=Ad _ _
 have J:HB (h.new (.cells e.cells 31)):=hb.new _;have s1:=s.ext x1;have n1:(h.new (.cells e.cells 31)).next=h.next+1:=rfl
 generalize h.new (.cells e.cells 31)=h1 at x1 C J s1 n1⊢;have nx:¬G h.next:=fun y=>bT _ (s.lt _ y)
 obtain⟨V,M,qc,qh,cs,hs,ms,F,a⟩:=s1.Ph;have lD:=J _ _ a.D8;have l3:=J _ _ C;obtain⟨_,_,e2,e3⟩:=e.one;rw[Hl lD,Cy a.D8 rfl]
 try simp only[Aa,As]
 rw[Hl l3,Aj C rfl e2]
 try simp only[Aa,As]
 rw[Hl l3,Aj C rfl e3]
 try simp only[Aa,As]
 rw[Hl l3,Cp C rfl (Evt.XL w)]
 try simp only[Aa,As]
 refine Ok.bC (S:=F) (VM (K:=K) A a_ a.dev.lift (C8 J) a_ e.Ai e.off w.len w.u8) (fun _ _ p=>p.2.2.1) ?_;rintro _ h3 h4 s' ⟨⟨n,rfl,_⟩,d3,_,aw⟩ sm c4 _;obtain⟨s4,ad,a4⟩:=s1.call a J d3 sm c4;have W:=sm.hb aw;have C:=ad.at J C nx;have fin:∀(u:Ab) (G5:Nat->Prop),Gj u D { S with dv:=S.dv.G8 e.Ai e.off e.pat } G5->(∀i,G5 i->Bm G h u i)->Av (Bm G h1 h4) h4 u->HB u->Ok (some (.tuple [],u)) fun v h'=>Gj h' D { S with dv:=S.dv.G8 e.Ai e.off e.pat } (Bm G h h')/\Av G h h'/\HB h':=fun u G5 s5 g5 c5 B=>by
  have cc:Av G h u:=((Ext.to x1).trans ad).then c5 fun j hj hl=>by
   rcases hj with y|y
   ·exact y
   ·omega
  exact .ret ⟨s5.mono g5 (Bm.lt s.lt cc.next),cc,B⟩
 have gr:∀u:Ab,h4.next<=u.next->∀i,Bm G h1 h4 i->Bm G h u i:=fun u l i O=>by
  rcases O with y|y
  ·exact .inl y
  ·exact .inr ⟨a_,a_⟩
 simp only[Ac,I];by_cases hn:n=0
 ·subst hn
  simp only[aB,aA,Aa,JN];rw[Aj C rfl e2]
  try simp only[Aa]
  rw[Aj C rfl e3];rw[Ay (l:=[I e.Ai,I e.off]) rfl]
  try simp only[Aa]
  have L:Ext h4 (h4.new (.cells [I 0,I 0] 217)):=Av.new _ _;have b8:(h4.new (.cells [I 0,I 0] 217)).get h4.next=some (.cells [I 0,I 0] 217):=Ad _ _
  refine Ok.st [I e.Ai,I e.off] (o:=0) (l:=[I 0,I 0]) (Ad _ _) rfl rfl rfl ?_;have L:Ext h4 ((h4.new (.cells [I 0,I 0] 217)).put h4.next (.cells [I e.Ai,I e.off] 217)):=(Av.new h4 _:Ext _ _).Ar (.inr (aE _)) (aN _) _;have U:((h4.new (.cells [I 0,I 0] 217)).put h4.next (.cells [I e.Ai,I e.off] 217)).get h4.next=some (.cells [I e.Ai,I e.off] 217):=Ae _ _ _
  have n5:((h4.new (.cells [I 0,I 0] 217)).put h4.next (.cells [I e.Ai,I e.off] 217)).next=h4.next+1:=rfl
  simp only[I]at L U n5⊢;generalize (h4.new (.cells [EV.int .i64 0,.int .i64 0] 217)).put h4.next (.cells [.int .i64 e.Ai,.int .i64 e.off] 217)=u at L U n5⊢
  have B:=L.hb W;have s5:=s4.ext L;have C:=L.at W C;have a5:=a4.frame L.next fun i O=>L.get i (s4.lt i O) id
  have az:=B _ _ a5.D8;have a0:=B _ _ U;have ca:=B _ _ C;rw[Hl az,Cy a5.D8 rfl]
  try simp only[Aa,As]
  rw[Hl a0,Cp U rfl (Ak (n:=2) rfl)]
  try simp only[Aa,As]
  obtain⟨p,k,el,up,lp⟩:=Bgv (h:=u.lift) (by rw[Bx];exact a5.map) a5.marks e.Ai e.off;simp only[kp,I]at el;rw[kr el]
  try simp only[Aa,As]
  have T:Ext u ((u.new (.cells (List.replicate 64 (EV.int .u8 0)++[EV.int .i64 0]) 235)).put u.next (.cells (p++[I k]) 235)):=(Av.new u _:Ext _ _).Ar (.inr (aE _)) (aN _) _;have g6:((u.new (.cells (List.replicate 64 (EV.int .u8 0)++[EV.int .i64 0]) 235)).put u.next (.cells (p++[I k]) 235)).get u.next=some (.cells (p++[I k]) 235):=Ae _ _ _
  rw[Hg];refine Ok.st (p++[I k]) (Ad _ _) rfl (by show Gk (p++[I k])=65;rw[Bg,aF,lp];rfl) (Bo (by rw[aF,bR];show _=(p++[I k]).length;rw[aF,lp];rfl)) ?_;generalize (u.new (.cells (List.replicate 64 (EV.int .u8 0)++[EV.int .i64 0]) 235)).put u.next (.cells (p++[I k]) 235)=h6 at T g6⊢
  have E:=T.hb B;have s6:=s5.ext T;have C:=T.at B C;have U:=T.at B U;have a6:=a5.frame T.next fun i O=>T.get i (s5.lt i O) id
  have a2:=E _ _ a6.D8;have a3:=E _ _ U;have a8:=E _ _ C;have af:=E _ _ g6
  try simp only[Aa,As]
  rw[Hl a2,Cy a6.D8 rfl]
  try simp only[Aa,As]
  rw[Hl a3,Cp U rfl (Ak (n:=2) rfl)]
  try simp only[Aa,As]
  rw[Hl af,Cp g6 rfl (l':=p) (by rw[F9 (by rw[aF,lp];show 0+64<=64+1;omega),dE,<-lp,fN])]
  try simp only[Aa,As]
  rw[Hl a8,Cp C rfl (Evt.XL w)]
  try simp only[Aa,As]
  refine Ok.bE (XI (K:=K) lp w.len up w.u8 (C8 E) a_) (fun _ _ p=>p.2.1) ?_;rintro _ cf h7 ⟨rfl,_,_⟩ ch X;have Y:=X.hb E;have s7:=s6.ext X;have a7:=a6.frame X.next fun i O=>X.get i (s6.lt i O) id
  have g6:=X.at E g6
  try simp only[Aa,As]
  rw[Hl af,Aj g6 rfl (v:=I k) (by rw[cp a_,lp];rfl)];simp only[Aa,As,I,Ac];have xl:=wB lp w.len;rw[Ay (l:=Tx p e.pat++[I (Dl .i64 (k+1))]) (by
   show jF (Dn [(0,64),(64,1)]) [(0,.agg (Tx p e.pat)),(1,.int .i64 (Dl .i64 (k+1)))] (List.replicate 64 (.int .u8 0)++[.int .i64 0])=_;have e1:Nb (List.replicate 64 (EV.int .u8 0)++[EV.int .i64 0]) 0 (Tx p e.pat)=some (Tx p e.pat++[EV.int .i64 0]):=by
    rw[ub (by rw[aF,xl,bR];show 0+64<=64+1;omega),xl];rfl
   have e2:Nb (Tx p e.pat++[EV.int .i64 0]) 64 [EV.int .i64 (Dl .i64 (k+1))]=some (Tx p e.pat++[I (Dl .i64 (k+1))]):=by
    rw[ub (by rw[aF,xl];show 64+1<=64+1;omega),<-xl,fN,dc (by rw[aF];exact aE _),dP]
   show Bc (Nat.beq (Gk (Tx p e.pat)) 64) (oB (fun z=>jF (Dn [(0,64),(64,1)]) [(1,.int .i64 (Dl .i64 (k+1)))] z) (Nb (List.replicate 64 (EV.int .u8 0)++[EV.int .i64 0]) 0 (Tx p e.pat))) none=_;rw[Bg,xl,cL,Al,e1];show oB (fun z=>some z) (Nb (Tx p e.pat++[EV.int .i64 0]) 64 [EV.int .i64 (Dl .i64 (k+1))])=_;rw[e2];rfl)]
  obtain⟨ah,eu,a9⟩:=A6g (h:=h7.lift) (M:=M) (ms:=ms) (by rw[Bx];exact a7.map) a7.marks e.Ai e.off (p:=Tx p e.pat) (n:=Dl .i64 (k+1)) (up.xor w.u8) xl;simp only[kp,I]at eu;have lM:=Y _ _ a7.map;refine Ok.bC (S:=fun i=>i=M) (P:=fun v h'=>v=.tuple []/\h'=h7.lift.put M (.map ah)) ⟨_,_,eu,rfl,rfl⟩ (fun _ _ p=>by rw[p.2];exact(Av.refl (S:=fun i=>i=M) _).Ar (.inl rfl) (h:=h7.lift) lM _) ?_;rintro _ _ h9 cw ⟨rfl,rfl⟩ aj c9 _;obtain⟨s8,c8,cy⟩:=s7.tO a7 Y a9;have e9:∀i,h9.get i=(h7.put M (.map ah)).get i:=fun i=>by
   rw[aj.get,Ab.get_put,Ab.get_put,Bx]
  have n9:h9.next=h7.next:=aj.next
  have s9:=s8.frame (h':=h9) (by rw[n9];exact aE _) fun i _=>e9 i
  refine fin h9 _ s9 (gr h9 (by have:=L.next;have:=T.next;have:=X.next;omega)) ?_ (c9.hb Y);refine((Ext.to L).trans ((Ext.to T).trans (Ext.to X))).then c9 fun i O _=>?_
  subst O;exact a4.sub.2.2.1
 ·simp only[hn,aQ,aC,Aa]
  exact fin h4 _ s4 (gr h4 (aE _)) (Av.refl _) W
theorem Af3.own{M qc qh o u:Nat}{cs hs B C:EV}{S:J1}(a:Af3 h D V M qc qh cs hs ms S F G)(hb:HB h){Qp:List Evt}
 (g:h'.get D=some (.cells [.ptr V 0,B,C,.map M] 100)) (rc:Ce h' B o 31 68 ev.length (ev.map Evt.cells).flatten) (U:Ce h' C u 31 68 Qp.length (Qp.map Evt.cells).flatten)
 (n:h.next<=h'.next) (k:∀i,i<h.next->i≠D->(0<S.ev.length->i≠qc)->(0<S.Qp.length->i≠qh)->h'.get i=h.get i) (sz:∀i,G i->i<h.next)
 (O:0<ev.length->h.next<=o/\o<h'.next\/o=qc/\0<S.ev.length) (T:0<Qp.length->h.next<=u/\u<h'.next\/u=qh/\0<S.Qp.length) (ne:0<ev.length->0<Qp.length->o≠u) :
 Af3 h' D V M o u B C ms ⟨S.dv,ev,Qp⟩ F (Bm G h h'):=by
 obtain⟨b1,b2,b3,b4,W⟩:=a.sub;obtain⟨c1,c2,c3,c4,c5⟩:=a.apart;have X:=hb _ _ a.map;have Y:h'.get M=h.get M:=k _ X (Ba a.map a.D8 (by simp)) (fun y=>Ba a.map (a.Kb.block y) (by simp)) (fun y=>Ba a.map (a.Atp.block y) (by simp));refine⟨g,by rw[Y];exact a.map,a.marks,rc,U,a.dev.frame n fun i E=>k i (sz i (b1 i E)) (fun y=>c1 (y▸E)) (fun y z=>c3 y (z▸E)) (fun y z=>c4 y (z▸E)),⟨fun i E=>.inl (b1 i E),.inl b2,.inl b3,fun y=>?_,fun y=>?_⟩,⟨c1,c2,fun y z=>?_,fun y z=>?_,ne⟩⟩
 ·rcases O y with z|⟨z,J⟩
  ·exact .inr z
  ·rw[z];exact .inl (b4 J)
 ·rcases T y with z|⟨z,J⟩
  ·exact .inr z
  ·rw[z];exact .inl (W J)
 ·rcases O y with x|⟨x,L⟩
  ·have:=sz _ (b1 _ z);omega
  ·rw[x]at z;exact c3 L z
 ·rcases T y with x|⟨x,L⟩
  ·have:=sz _ (b1 _ z);omega
  ·rw[x]at z;exact c4 L z
theorem Bgt(A:Bu disp)(hK:1000<K)(hd:7<=d){S:J1}(s:Gj h D S G)(hb:HB h){e:Evt}(w:e.Wf)(hn:S.ev.length+S.Qp.length<200):
 Ok (Ag TT disp K d false 121 [.ptr D 0,.agg e.cells] h) fun v h'=>Gj h' D { S with dv:=S.dv.Sx e,Qp:=S.Qp++[e] } (Bm G h h')/\Av G h h'/\HB h':=by
 obtain⟨dd,rfl⟩:=d_ d;rw[Aof A a_];simp only[LR,Aa];have x1:Ext h (h.new (.cells e.cells 31)):=Av.new _ _;have B:(h.new (.cells e.cells 31)).get h.next=some (.cells e.cells 31):=Ad _ _
 have O:HB (h.new (.cells e.cells 31)):=hb.new _;have s1:=s.ext x1;have n1:(h.new (.cells e.cells 31)).next=h.next+1:=rfl
 generalize h.new (.cells e.cells 31)=h1 at x1 B O s1 n1⊢;have nx:¬G h.next:=fun y=>bT _ (s.lt _ y)
 obtain⟨V,M,qc,qh,cs,hs,ms,F,a⟩:=s1.Ph;have lD:=O _ _ a.D8;have l3:=O _ _ B;have el:=Evt.len w;rw[Hl lD,Cy a.D8 rfl]
 try simp only[Aa,As]
 rw[Hl l3,Cp B rfl (Ak el)]
 try simp only[Aa,As]
 rw[Xb (v:=.agg e.cells) (z:=List.replicate 4 (EV.int .i64 0)++List.replicate 64 (EV.int .u8 0)) rfl (by simp) el,Au];obtain⟨h2,e_,x2,gx,n2⟩:=nW h1 (.cells (EV.cells (.agg e.cells)) 31);rw[e_];have C:=x2.hb O;have B:=x2.at O B;have s2:=s1.ext x2;have J:=a.frame x2.next fun i X=>x2.get i (s1.lt i X) id
 have r2:Ce h2.lift hs qh 31 68 S.Qp.length (S.Qp.map Evt.cells).flatten:=J.Atp.frame fun _=>Bx _ _
 obtain⟨h3,e3,r3,n3,c3⟩:=qp (x:=.slice h1.next 0 1 1 false) (n:=1) r2 rfl a_ a_ a_ (Y3 (b:=h1.next) (by rw[Bx];exact gx) el) (by rw[el]);refine Ok.bC (S:=fun i=>0<S.Qp.length/\i=qh) (P:=fun v h'=>v=.slice h2.lift.next 0 (S.Qp.length+1) (S.Qp.length+1) true/\h'=h3) ⟨_,_,e3,rfl,rfl⟩ (fun _ _ p=>by rw[p.2];exact c3) ?_;rintro _ _ h4 s' ⟨rfl,rfl⟩ sm x4 a8;have Y:=x4.hb C;rw[sA]at r3 n3;rw[sA];have a9:¬(0<S.Qp.length/\D=qh):=fun y=>Ba J.D8 (J.Atp.block y.1) (by simp) y.2
 have gD:h4.get D=some (.cells [.ptr V 0,cs,hs,.map M] 100):=Av.at x4 C J.D8 a9;have r4:Ce h4 (.slice h2.next 0 (S.Qp.length+1) (S.Qp.length+1) true) h2.next 31 68 (S.Qp.length+1) ((S.Qp.map Evt.cells).flatten++e.cells):=r3.frame fun _=>sm.get _
 have B:h4.get h.next=some (.cells e.cells 31):=Av.at x4 C B fun y=>by
  have:=J.Atp.block y.1;exact Ba B this (by simp) y.2
 have ab:=Y _ _ gD
 try simp only[Aa]
 rw[Hg (by rcases a8 with rfl|⟨w,rfl,_⟩<;>kernel_rfl)];refine Ok.hM gD rfl rfl (by show 2<4;decide) ?_;simp only[List.set];have bb:=Y _ _ B;have ao:h2.next<h4.next:=by
  have:=r4.block a_;exact Y _ _ this
 have T:(h4.put D (.cells [EV.ptr V 0,cs,.slice h2.next 0 (S.Qp.length+1) (S.Qp.length+1) true,.map M] 100)).get D=some (.cells [EV.ptr V 0,cs,.slice h2.next 0 (S.Qp.length+1) (S.Qp.length+1) true,.map M] 100):=Ae _ _ _;have k5:∀i,i≠D->(h4.put D (.cells [EV.ptr V 0,cs,.slice h2.next 0 (S.Qp.length+1) (S.Qp.length+1) true,.map M] 100)).get i=h4.get i:=fun i X=>Af _ (cR X)
 have n5:(h4.put D (.cells [EV.ptr V 0,cs,.slice h2.next 0 (S.Qp.length+1) (S.Qp.length+1) true,.map M] 100)).next=h4.next:=rfl
 have E:HB (h4.put D (.cells [EV.ptr V 0,cs,.slice h2.next 0 (S.Qp.length+1) (S.Qp.length+1) true,.map M] 100)):=Y.put ab _;have c5:Av (Bm G h1 h2) h2 (h4.put D (.cells [EV.ptr V 0,cs,.slice h2.next 0 (S.Qp.length+1) (S.Qp.length+1) true,.map M] 100)):=(x4.mono (fun i X=>.inl (by rw[X.2];exact J.sub.2.2.2.2 X.1))).Ar (.inl (.inl a.sub.2.1)) ab _;generalize h4.put D (.cells [EV.ptr V 0,cs,.slice h2.next 0 (S.Qp.length+1) (S.Qp.length+1) true,.map M] 100)=o at T k5 n5 E c5⊢;have au:h.next≠D:=fun y=>nx (y▸a.sub.2.1)
 have B:o.get h.next=some (.cells e.cells 31):=by rw[k5 _ au];exact B
 have aw:D<o.next:=by rw[n5];exact ab
 have ax:h.next<o.next:=by rw[n5];exact bb
 have a5:Af3 o D V M qc h2.next cs (.slice h2.next 0 (S.Qp.length+1) (S.Qp.length+1) true) ms ⟨S.dv,S.ev,S.Qp++[e]⟩ F (Bm G h2 o):=by
  refine J.own C T ?_ ?_ c5.next (fun i X h1 _ h3=>?_) s2.lt (fun y=>.inr ⟨rfl,y⟩) (fun _=>.inl ⟨aE _,by rw[n5];exact ao⟩) (fun y _=>?_)
  ·refine J.Kb.frame fun y=>?_
   have gc:=J.Kb.block y;rw[k5 _ (Ba gc J.D8 (by simp)),Av.at x4 C gc fun z=>J.apart.2.2.2.2 y z.1 z.2,gc]
  ·rw[aF,cM,dW]
   show Ce o _ _ 31 68 (S.Qp.length+1) ((S.Qp.map Evt.cells).flatten++(e.cells++[]));rw[dP];exact r4.frame fun _=>k5 _ (by have:=C _ _ J.D8;omega)
  ·rw[k5 i h1]
   exact x4.get i X fun y=>h3 y.1 y.2
  ·have:=C _ _ (J.Kb.block y);omega
 have bf:∀i,Bm G h2 o i->i<o.next:=Bm.lt s2.lt c5.next
 have s5:Gj o D ⟨S.dv,S.ev,S.Qp++[e]⟩ (Bm G h2 o):=by
  refine⟨bf,⟨by rw[aF];show S.ev.length+(S.Qp.length+1)<=200;omega,s.wf.wf,fun x hx=>?_⟩,V,M,qc,_,cs,_,ms,F,a5⟩;rcases bN.1 hx with hx|hx
  ·exact s.wf.hwf x hx
  ·rw[aP.1 hx];exact w
 have a0:Av G h o:=((Ext.to x1).trans (Ext.to x2)).then c5 fun j hj hl=>by
  rcases hj with y|y
  ·exact y
  ·omega
 have cG:∀u,o.next<=u.next->Av (Bm G h2 o) o u->Av G h u:=fun u l c=>a0.then c fun j hj hl=>by
  rcases hj with y|y
  ·exact y
  ·have:=x1.next;have:=x2.next;omega
 have fin:∀(u:Ab) (dv:Dv),Gj u D ⟨dv,S.ev,S.Qp++[e]⟩ (Bm (Bm G h2 o) o u)->Av (Bm G h2 o) o u->HB u->dv=S.dv.Sx e->Ok (some (.tuple [],u)) fun v h'=>Gj h' D ⟨S.dv.Sx e,S.ev,S.Qp++[e]⟩ (Bm G h h')/\Av G h h'/\HB h':=fun u dv s9 L U he=>by
  subst he;refine .ret ⟨s9.mono (fun i X=>?_) (Bm.lt s.lt (cG u L.next L).next),cG u L.next L,U⟩;rcases X with(y|y)|y
  ·exact .inl y
  ·have:=x1.next;have:=x2.next;have:=L.next;exact .inr ⟨a_,a_⟩
  ·exact .inr ⟨by have:=a0.next;omega,y.2⟩
 obtain⟨_,e1,e2,_⟩:=e.one;rw[Aj B rfl e1];simp only[Ac,I];have W:∀st:Nat,S.dv.fail e.Ai st=S.dv.Sx e ->
  Ok (Ly 6 63 (((DX.ld ⟨0,[],[],[],[]⟩ 3 D).ld 5 h.next)) o (fun h=>Pd K (.ptr V 0) (I e.Ai) (I st) h) fun _ h s=>some (.tuple [],h)) fun v h'=>Gj h' D ⟨S.dv.Sx e,S.ev,S.Qp++[e]⟩ (Bm G h h')/\Av G h h'/\HB h':=by
  intro st bj;refine Ok.bC (S:=F) (A8r (K:=K) a5.dev.lift (C8 E) e.Ai st) (fun _ _ p=>p.2.1) ?_;rintro _ h6 u s' ⟨d6,_,bn⟩ sm L _;obtain⟨s9,ae,_⟩:=s5.call a5 E d6 sm L;exact fin u _ s9 ae (sm.hb bn) bj
 by_cases k1:e.kind=1
 ·simp only[k1,aC,Aa]
  rw[Cp B rfl (Ak el)];refine(A5o (K:=K) A hK a_ s5 E w).Am ?_;rintro _ u ⟨s9,L,U⟩;exact fin u _ s9 L U (by unfold Dv.Sx;rw[aI k1])
 ·simp only[k1,aA,Aa]
  by_cases k2:e.kind=2
  ·simp only[k2,aC,Aa,As]
   rw[Hl aw,Cy T rfl]
   try simp only[Aa,As]
   rw[Hl ax,Aj B rfl e2];exact W 3 (by unfold Dv.Sx;rw[aG k1,aI k2])
  ·simp only[k2,aA,Aa]
   by_cases k3:e.kind=3
   ·simp only[k3,aC,Aa,As]
    rw[Hl aw,Cy T rfl]
    try simp only[Aa,As]
    rw[Hl ax,Aj B rfl e2];exact W 4 (by unfold Dv.Sx;rw[aG k1,aG k2,aI k3])
   ·simp only[k3,aA,Aa]
    by_cases k4:e.kind=4
    ·simp only[k4,aC,Aa,Cy T rfl]
     refine(A55 (K:=K) a5.dev E).Am ?_;rintro _ u ⟨d9,L,U⟩;obtain⟨s9,ae⟩:=s5.put a5 E (d9.grow a5.dev.lt L.next) L;exact fin u _ s9 ae U (by unfold Dv.Sx;rw[aG k1,aG k2,aG k3,aI k4])
    ·simp only[k4,aA,Aa]
     exact fin o S.dv (s5.grow s5.lt (aE _)) (Av.refl _) E (by unfold Dv.Sx;rw[aG k1,aG k2,aG k3,aG k4])
theorem Bib(q o n r:Nat)(op:Bool)(k:EV->R):K3 iT (bin TT .eql 97) (.slice q o n r op) .Aq k=k (.bool false):=by kernel_rfl
theorem Bct(q o z:Nat)(k:EV->R):K3 iT (bin TT .eql 97) (.tail q o z) .Aq k=k (.bool false):=by kernel_rfl
theorem A5s{q:Nat}{e:Evt}(w:∀x∈e::ev,x.Wf)(T:ev.length<=65000)(hg:h.get q=some (.vec ((e::ev).map Evt.cells).flatten 31 68))(hb:HB h){kk:EV->Ab->R}
 (B:∀v h' q',Ce h' v q' 31 68 ev.length (ev.map Evt.cells).flatten->Ext h h'->(0<ev.length->h.next<=q')->Ok (kk v h') Q) :
 Ok (iK 68 (.slice q 0 (e::ev).length (e::ev).length true) (some (.int .i64 1)) none none fun v=>Am (D6 K v h) kk) Q:=by
 have o:Ext h (h.new (.cells [] 31)):=Av.new _ _;have C:Ca (List.replicate 4 (.int .i64 0)++List.replicate 64 (.int .u8 0)) 31 68 0 [] h=some (.slice h.next 0 0 0 false,h.new (.cells [] 31)):=rfl;have wl:∀x∈ev.map Evt.cells,x.length=68:=fun x E=>by
  obtain⟨y,J,rfl⟩:=dK.1 E;exact Evt.len (w y (aT _ J))
 have fl:(ev.map Evt.cells).flatten.length=ev.length*68:=by rw[wD _ wl,bk]
 rcases eI ev.length with h0|hp
 ·have:ev = []:=cO.1 h0
  subst this;have e1:∀k:EV->R,iK 68 (.slice q 0 [e].length [e].length true) (some (.int .i64 1)) none none k=k (.tail q 68 0):=fun k=>rfl
  rw[e1];simp only[D6,Bct,Aa,Gf];rw[C,Au];have:Et 31 68 (.slice h.next 0 0 0 false) (.tail q 68 0) (h.new (.cells [] 31))=some (.slice h.next 0 0 0 false,h.new (.cells [] 31)):=by unfold Et;rfl
  rw[this,Au]
  try simp only[Aa]
  exact B _ _ 0 (.empty _ _ _ _ _) o fun y=>absurd y (bT _)
 ·obtain⟨m,hm⟩:∃m,ev.length=m+1:=⟨ev.length-1,a_⟩
  have e1:∀k:EV->R,iK 68 (.slice q 0 (e::ev).length (e::ev).length true) (some (.int .i64 1)) none none k=k (.slice q 68 ev.length ev.length true):=fun k=>by
   rw[bJ,hm];rfl
  rw[e1];simp only[D6,Bib,Aa,Gf];rw[C,Au];have L:Pm (h.new (.cells [] 31)) 68 ev.length (.slice q 68 ev.length ev.length true)=some (ev.map Evt.cells).flatten:=by
   show Bc (Nat.beq ev.length 0) (some []) (Yy _ q 68 (Nat.mul ev.length 68))=_;rw[show Nat.beq ev.length 0=false by rw[hm];rfl,Bk];unfold Yy mV;rw[o.at hb hg];have el:=Evt.len (w e (aW ..));show Ou (e.cells++(ev.map Evt.cells).flatten) 68 (ev.length*68)=_;rw[F9 (by rw[aF,el,fl];exact aE _),<-el,gS,bS (by rw[fl,el];exact aE _)]
  have ap:=X9 (h:=h.new (.cells [] 31)) (b:=h.next) (e:=31) (x:=.slice q 68 ev.length ev.length true) rfl a_ L fl 0;rw[show ∀(x:R) (k u:EV->Ab->R),Am (Am x k) u=Am x fun v h=>Am (k v h) u from fun x k u=>by cases x<;>rfl];refine ap.Am ?_;rintro v h2 ⟨q',r,O,l⟩;rw[Au];exact B v h2 q' r (o.trans O) fun y=>by have:=l y;have:=o.next;omega
theorem Blb(A:Bu disp)(hK:1000<K)(hd:9<=d):∀(m:Nat) (S:J1) (h:Ab) (G:Nat->Prop),S.ev.length<m->Gj h D S G->HB h ->
 Ok (Kv (Ag TT disp K d false) (Ag TT disp K d true) K m (.ptr D 0) h) fun v h'=>Gj h' D S.due (Bm G h h')/\Av G h h'/\HB h':=by
 intro m;induction m with
 | zero=>intro S h G hm;omega
 | succ m ih=>
  intro S h G hm s hb;obtain⟨V,M,qc,qh,cs,hs,ms,F,a⟩:=s.Ph;obtain⟨zl,z,q,b,_⟩:=a.dev.Ph;have lD:=hb _ _ a.D8;have lV:=hb _ _ b.dev;have stay:S.due=S->Ok (some (.tuple [],h)) fun(_:EV) h'=>Gj h' D S.due (Bm G h h')/\Av G h h'/\HB h':=fun y=>by
   rw[y];exact .ret ⟨s.grow s.lt (aE _),Av.refl _,hb⟩
  simp only[Kv,Aa,As,Cq lD,Cy a.D8 rfl];have W:Tp K (.ptr V 0) h.lift=some (.bool S.dv.down,h.lift):=by
   simp only[Tp,Aa,Cy b.lift.dev rfl]
  rw[kr W];obtain⟨dv,ev,Qp⟩:=S;simp only at a W b hm⊢;cases X:dv.down with
  | true=>
   simp only[Aa,Ac,As,N7,Kq];refine stay ?_;unfold J1.due;cases ev with
   | nil=>rfl
   | cons e r=>unfold kC;rw[aI (.inl X)]
  | false=>
   simp only[Aa,Ac,As];rw[Hl lD,Cy a.D8 rfl];simp only[Aa,a.Kb.Ip,Ac];cases ev with
   | nil=>
    simp only[fS,N7,Kq,Aa,Ac];exact stay rfl
   | cons e r=>
    have we:=s.wf.wf e (aW ..);have el:=Evt.len we;have gq:=a.Kb.block (Nat.succ_pos _);have lq:=hb _ _ gq;have c0:Ou (((e::r).map Evt.cells).flatten) 0 68=some e.cells:=by
     show Ou (e.cells++_) 0 68=_;rw[F9 (by rw[aF,el];omega),dE,<-el,fN]
    have al:(((e::r).map Evt.cells).flatten)[0]? = some (I e.Ph):=rfl;rw[aO (show(0:Int)<((e::r).length:Int) by rw[bJ];omega)];simp only[N7,Aa,Ac,As];rw[Hl lD,Cy a.D8 rfl]
    try simp only[Aa,As]
    rw[show ∀k:EV->R,iF 68 cs (.int .i64 0) k=k (.ptr qc (0*68))from fun k=>a.Kb.ix (Nat.succ_pos _) .i64 k]
    try simp only[Aa,As]
    rw[Hl lq,Aj gq rfl al]
    try simp only[Aa,As]
    rw[Hl lD,Cy a.D8 rfl]
    try simp only[Aa,As]
    have ao:R6 K (.ptr V 0) h.lift=some (I dv.cnt,h.lift):=by
     simp only[R6,Aa,Cy b.lift.dev rfl]
    rw[kr ao];simp only[I,Ac];by_cases E:e.Ph<=dv.cnt
    ·rw[aO E]
     simp only[Kq,Aa,JW,Cy a.D8 rfl];rw[show ∀k:EV->R,iF 68 cs (.int .i64 0) k=k (.ptr qc (0*68))from fun k=>a.Kb.ix (Nat.succ_pos _) .i64 k];rw[Cp gq rfl c0]
     try simp only[Aa]
     have aq:(List.replicate 4 (EV.int .i64 0)++List.replicate 64 (EV.int .u8 0)).length=68:=by simp
     refine Ok.st e.cells (Ad _ _) rfl (by show Gk e.cells=68;rw[Bg,el]) (Bo (by rw[aq];exact el.symm)) ?_;obtain⟨L,e_,U,g2,_⟩:=nP h (.cells (List.replicate 4 (EV.int .i64 0)++List.replicate 64 (EV.int .u8 0)) 31) (.cells e.cells 31);rw[e_];have o:=U.hb hb;have s1:=s.ext U;have u:=a.frame U.next fun i B=>U.get i (s.lt i B) id
     have aw:=u.Kb.block (Nat.succ_pos _);have ax:=u.Kb.slice (Nat.succ_pos _);subst ax;simp only[Aa,Cy u.D8 rfl];have ay:=s.wf.ev;refine A5s (K:=K) s.wf.wf (by simp only[bJ]at ay;omega) aw o ?_;intro v h2 q' r2 C O;have T:=C.hb o;have s2:=s1.ext C;have a2:=u.frame C.next fun i B=>C.get i (s1.lt i B) id
     have g2:=C.at o g2
     try simp only[Aa]
     have Y:=T _ _ a2.D8;refine Ok.hM a2.D8 r2.plain.1 r2.plain.2 (by show 1<4;decide) ?_;simp only[List.set];have aa:(h2.put D (.cells [EV.ptr V 0,v,hs,.map M] 100)).get D=some (.cells [EV.ptr V 0,v,hs,.map M] 100):=Ae _ _ _;have k3:∀i,i≠D->(h2.put D (.cells [EV.ptr V 0,v,hs,.map M] 100)).get i=h2.get i:=fun i B=>Af _ (cR B)
     have ab:HB (h2.put D (.cells [EV.ptr V 0,v,hs,.map M] 100)):=T.put Y _;have c3:Av G h2 (h2.put D (.cells [EV.ptr V 0,v,hs,.map M] 100)):=(Av.refl h2).Ar (.inl a.sub.2.1) Y _;have n3:(h2.put D (.cells [EV.ptr V 0,v,hs,.map M] 100)).next=h2.next:=rfl
     generalize h2.put D (.cells [EV.ptr V 0,v,hs,.map M] 100)=J at aa k3 ab c3 n3⊢;have nD:h.next≠D:=a_
     have g3:J.get h.next=some (.cells e.cells 31):=by rw[k3 _ nD];exact g2
     have rb:0<r.length->q'<h2.next:=fun y=>T _ _ (r2.block y)
     have a3:Af3 J D V M q' qh v hs ms ⟨dv,r,Qp⟩ F (Bm G L J):=by
      have az:L.next<=J.next:=by rw[n3];exact C.next
      have ad:∀i,i<L.next->i≠D->J.get i=L.get i:=fun i B a0=>by rw[k3 i a0,C.get i B id]
      refine u.own o aa (r2.frame fun y=>k3 _ (by have:=O y;have:=o _ _ u.D8;omega)) (u.Atp.frame fun y=>ad _ (o _ _ (u.Atp.block y)) (Ba (u.Atp.block y) u.D8 (by simp))) az (fun i B L _ _=>ad i B L) s1.lt
       (fun y=>.inl ⟨O y,by rw[n3];exact rb y⟩) (fun y=>.inr ⟨rfl,y⟩) fun y z=>?_
      have:=O y;have:=o _ _ (u.Atp.block z);omega
     have a4:Av G h J:=((Ext.to U).trans (Ext.to C)).trans c3;have s3:Gj J D ⟨dv,r,Qp⟩ (Bm G L J):=by
      refine⟨Bm.lt s1.lt (by rw[n3];exact C.next),⟨?_,fun x hx=>s.wf.wf x (aT _ hx),s.wf.hwf⟩,V,M,q',qh,v,hs,ms,F,a3⟩;have:=s.wf.ev;simp only[bJ]at this⊢;omega
     rw[Cp g3 rfl (Ak el)];refine(Bgt (K:=K) A hK a_ s3 ab we (by have:=s.wf.ev;simp only[bJ]at this⊢;omega)).Am ?_;rintro _ h4 ⟨s4,c4,a5⟩;have ae:(J1.mk dv (e::r) Qp).due=(J1.mk (dv.Sx e) r (Qp++[e])).due:=by
      unfold J1.due
      conv=>lhs;unfold kC
      rw[aG (by rw[X];rintro(y|y);exact absurd y (by simp);exact y E)]
     rw[ae];refine(ih ⟨dv.Sx e,r,Qp++[e]⟩ h4 _ (by simp only[bJ]at hm⊢;omega) s4 a5).mono ?_;rintro _ h5 ⟨s5,c5,a6⟩;have t1:=U.next
     have t2:=C.next
     have t4:=c4.next
     have t5:=c5.next
     have a7:Av G h h4:=a4.then c4 fun j hj hl=>by
      rcases hj with y|y
      ·exact y
      ·omega
     have af:Av G h h5:=a7.then c5 fun j hj hl=>by
      rcases hj with(y|y)|y
      ·exact y
      ·omega
      ·omega
     refine⟨s5.mono (fun i B=>?_) (Bm.lt s.lt af.next),af,a6⟩;rcases B with((y|y)|y)|y
     ·exact .inl y
     ·exact .inr ⟨a_,a_⟩
     ·exact .inr ⟨a_,a_⟩
     ·exact .inr ⟨a_,y.2⟩
    ·rw[aL E]
     simp only[Kq,Aa];refine stay ?_;unfold J1.due kC;rw[aI (.inr E)]
theorem rO(A:Bu disp)(hK:1000<K)(S:J1):∀d,12<=d->WR disp K d S:=by
 intro d hd h D G s hb;obtain⟨e,rfl⟩:=d_ d;rw[At8 A a_];exact Blb (K:=K) A hK a_ K S h G (by have:=s.wf.ev;omega) s hb
section
def Out(F:Nat->Prop)(h:Ab):Nat->Prop:=fun i=>i<h.next/\¬F i
abbrev Kf(F:Nat->Prop):Ab->Ab->Prop:=Av fun i=>¬F i
theorem Av.kf(c:Av (Out F h) h h'):Kf F h h':=c.mono fun _ y=>y.2
theorem Ext.kf(c:Ext h h'):Kf F h h':=Ext.to c
theorem Kf.less(c:Kf F h h')(s:∀i,F' i->F i):Kf F' h h':=c.mono fun i y z=>y (s i z)
theorem Kf.at(c:Kf F h h')(hb:HB h){o:D5}(g:h.get i=some o)(u:F i):h'.get i=some o:=Av.at c hb g fun y=>y u
theorem Ext.oV{o h2:Ab}(x:Ext h o)(c:Kf (Bm F h o) o h2):Kf F h h2:=by
 refine(Ext.to (S:=fun i=>¬F i) x).then c fun i y u z=>y (.inl z)
theorem So.frame(s:So h m S H)(n:h.next<=h'.next)(e:∀i,H i->h'.get i=h.get i):So h' m S H:=by
 obtain⟨lt,D,p,bl,ql,np,q,c,G,a⟩:=s;obtain⟨t1,t2,t3,t4,t5,t6⟩:=a.sub;have k:∀i o,h.get i=some o->H i->h'.get i=some o:=fun i o g u=>by rw[e i u];exact g
 exact⟨fun i u=>aM (lt i u) n,D,p,bl,ql,np,q,c,G,⟨k _ _ a.H5.H5 t2,k _ _ a.H5.Az3 t3⟩,
  ⟨a.G3.pos,k _ _ a.G3.G3 t4,k _ _ a.G3.row t5,fun d hd=>k _ _ (a.G3.que d hd) (t6 d hd).1,fun d hd=>k _ _ (a.G3.chan d hd) (t6 d hd).2,a.G3.inj⟩,
  a.psz,a.drv.frame n fun i u=>e i (t1 i u),a.apart,a.sub⟩
structure Mi.Wp(S:Mi):Prop where
 sm:Sm S.g
 ps:∀d,d<S.g.D.toNat->∀x∈S.ps d,Bq S.g x=d/\¬S.bad x.toNat=1
structure Mi.Wf(S:Mi):Prop extends S.Wp where
 op:(S.a = -1/\S.b = -1)\/((0<=Bq S.g S.a/\¬S.bad S.a.toNat=1)/\(0<=Bq S.g S.b/\¬S.bad S.b.toNat=1))
theorem Y6(s:Sm g){z:Int}(h:0<=Bq g z):Rng z:=by
 have o:=s.d1;have h2:=s.z1;have u:=s.d0;have h4:=s.z0;rcases I8 s z with y|⟨_,_,_,C,E⟩
 ·omega
 ·obtain⟨J,m1⟩:=Rl (a:=g.D) (b:=g.Z) (A:=8) (B:=64)
  exact⟨a_,a_⟩
theorem Jb(s:Sm g){z:Int}(h:0<=Bq g z:=by omega):0<=z:=by
 rcases I8 s z with y|⟨_,_,_,o,u⟩<;>omega
theorem Mi.Wf.rng(w:S.Wf):Rng S.a/\Rng S.b:=by
 rcases w.op with⟨o,h2⟩|⟨o,h2⟩
 ·rw[o,h2];exact⟨⟨a_,a_⟩,⟨a_,a_⟩⟩
 ·exact⟨Y6 w.sm o.1,Y6 w.sm h2.1⟩
theorem XM(w:∀d,d<g.D.toNat->∀x∈ps d,Bq g x=d/\P x)(n:Nat)(z:Int)(u:0<=Bq g z->P z):∀d,d<g.D.toNat->∀x∈(Wv g n ps z).2 d,Bq g x=d/\P x:=by
 intro d hd x o;unfold Wv at o;split at o
 ·exact w d hd x o
 next h0=>
  split at o
  ·exact w d hd x o
  ·split at o
   ·simp only[upd]at o
    split at o
    next e=>
     subst e;rcases bN.1 o with o|o
     ·exact w _ hd x o
     ·rw[aP.1 o];exact⟨a_,u a_⟩
    ·exact w d hd x o
   ·exact w d hd x o
theorem xn(S:Mi)(z u:Int):(S.leave z u).1.g=S.g/\(S.leave z u).1.a=S.a/\(S.leave z u).1.b=S.b/\(S.leave z u).1.u=S.u/\(S.leave z u).1.bad=S.bad:=by
 unfold Mi.leave;split
 ·exact⟨rfl,rfl,rfl,rfl,rfl⟩
 ·split<;>exact⟨rfl,rfl,rfl,rfl,rfl⟩
theorem Mi.Wp.leave(w:S.Wp)(z u:Int):(S.leave z u).1.Wp:=by
 unfold Mi.leave;split
 ·exact w
 next h0=>
  split
  ·refine⟨w.sm,XM w.ps _ _ fun o y=>h0 (.inr (.inl ?_))⟩
   unfold Mi.E8;rw[aO o,aO y];rfl
  ·exact⟨w.sm,w.ps⟩
theorem AX(S:Mi):S.close.1.g=S.g/\S.close.1.a = -1/\S.close.1.b = -1/\S.close.1.u=0/\S.close.1.bad=S.bad:=by
 unfold Mi.close;obtain⟨o,B,C,E,J⟩:=xn { S with a:=-1,b:=-1,u:=0 } S.a S.u;obtain⟨b1,b2,b3,b4,L⟩:=xn (({ S with a:=-1,b:=-1,u:=0 }:Mi).leave S.a S.u).1 S.b S.u;exact⟨b1.trans o,b2.trans B,b3.trans C,b4.trans E,L.trans J⟩
theorem Mi.Wp.close(w:S.Wp):S.close.1.Wf:=by
 have:({ S with a:=-1,b:=-1,u:=0 }:Mi).Wp:=⟨w.sm,w.ps⟩;obtain⟨C,o,B,E,J⟩:=AX S;exact { toWp:=(this.leave _ _).leave _ _,op:=.inl ⟨o,B⟩ }
theorem Mi.Wp.mark(w:S.Wp){z:Int}(C:0<=Bq S.g z):(S.mark z).Wp:=by
 refine⟨w.sm,fun d hd x o=>?_⟩;have o:x∈S.dropped z d:=o;unfold Mi.dropped at o;rw[aG a_]at o;have key:∀x,Bq S.g x=d/\¬S.bad x.toNat=1->¬x=z->Bq S.g x=d/\¬(S.mark z).bad x.toNat=1:=fun x o E=>by
  refine⟨o.1,?_⟩;show ¬(if x.toNat=z.toNat then(1:Int)else S.bad x.toNat)=1;have u:=Jb w.sm C;have h2:=Jb w.sm (z:=x) (by rw[o.1];omega);rw[aG a_];exact o.2
 simp only[upd]at o;split at o
 next e=>
  have h2:=(fK.1 o).2;have u:=w.ps d hd x (by rw[e];exact(fK.1 o).1);exact key x u (dG h2)
 next B=>
  have u:=w.ps d hd x o;refine key x u fun y=>B ?_
  subst y;omega
theorem Mi.Wf.Ci(w:S.Wf)(z:Int):(S.Ci z).1.Wf:=by
 unfold Mi.Ci;split
 ·exact w
 next o=>
  have o:0<=Bq S.g z:=a_
  split
  ·exact w
  ·split
   next u=>
    refine { toWp:=w.toWp.mark o,op:=?_ };rcases w.op with y|⟨C,E⟩
    ·exact .inl y
    ·have key:∀x,(0<=Bq S.g x/\¬S.bad x.toNat=1)->¬z=x->0<=Bq S.g x/\¬(S.mark z).bad x.toNat=1:=fun x B u=>by
      refine⟨B.1,?_⟩;show ¬(if x.toNat=z.toNat then(1:Int)else S.bad x.toNat)=1;have J:=Jb w.sm o;have h2:=Jb w.sm B.1;rw[aG a_];exact B.2
     exact .inr ⟨key _ C u.1,key _ E u.2⟩
   ·exact(w.toWp.mark o).close
theorem tw{f_:Nat->List Int}{x y:Int}(w:∀d,d<g.D.toNat->∀x∈ps d,Bq g x=d/\P x)(h:jV ps g.D.toNat=some (x,y,f_)):
 ∃a b:Nat,a<g.D.toNat/\b<g.D.toNat/\a≠b/\ps a=x::f_ a/\ps b=y::f_ b/\(∀d,d≠a->d≠b->f_ d=ps d)/\Ek ps (-1) g.D.toNat=a/\Ek ps a g.D.toNat=b/\(Bq g x=a/\P x)/\(Bq g y=b/\P y):=by
 unfold jV at h;split at h
 ·cases h
 next hp=>
  obtain⟨a,b,e1,e2,L,h2,O,h4,T⟩:=WK hp WL;rw[e1,e2]at h;injection h with h;injection h with u h;injection h with B o;simp only[bD]at u B o;obtain⟨U,r,C⟩:∃x r,ps a=x::r:=by cases E:ps a with|nil=>exact absurd E h4|cons x r=>exact⟨x,r,rfl⟩
  obtain⟨W,t,J⟩:∃x r,ps b=x::r:=by cases E:ps b with|nil=>exact absurd E T|cons x r=>exact⟨x,r,rfl⟩
  rw[C]at u o;rw[J]at B o;simp only[List.headD_cons,List.tail_cons]at u B o;subst u;subst B;subst o;refine⟨a,b,L,h2,O,?_,?_,fun d d1 d2=>?_,e1,e2,w a L _ (by rw[C];exact aW ..),w b h2 _ (by rw[J];exact aW ..)⟩
  ·rw[C];simp[upd,O]
  ·rw[J];simp[upd]
  ·simp[upd,d1,d2]
theorem Mi.Wf.ready(w:S.Wf):S.ready.1.Wf:=by
 unfold Mi.ready;split
 ·exact w
 ·split
  ·exact { toWp:=⟨w.sm,w.ps⟩,op:=w.op }
  ·cases hp:jV S.ps S.g.D.toNat with
   | none=>exact { toWp:=⟨w.sm,w.ps⟩,op:=w.op }
   | some t=>
    obtain⟨x,y,f_⟩:=t;obtain⟨a,b,L,h2,O,u,B,C,_,_,E,J⟩:=tw w.ps hp;refine { toWp:=⟨w.sm,fun d hd z o=>?_⟩,op:=.inr ⟨⟨by show 0<=Bq S.g x;omega,E.2⟩,⟨by show 0<=Bq S.g y;omega,J.2⟩⟩ };have o:z∈f_ d:=o;refine w.ps d hd z ?_;by_cases d1:d=a
    ·subst d1;rw[u];exact aT _ o
    ·by_cases d2:d=b
     ·subst d2;rw[B];exact aT _ o
     ·rw[C d d1 d2]at o;exact o
structure Da(h:Ab)(m:Nat)(S:Mi)(F:Nat->Prop):Prop where
 s:So h m S (Out F h)
 lt:∀i,F i->i<h.next
 wf:S.Wf
section
variable{S':Mi}
theorem Da.made(M:Da h m S F)(s:So h' m S' (Bm (Out F h) h h'))(c:Av (Out F h) h h')(w:S'.Wf):Da h' m S' F/\Kf F h h':=by
 refine⟨⟨s.mono (fun i o=>?_) fun i o=>o.1,fun i o=>aM (M.lt i o) c.next,w⟩,c.kf⟩;rcases o with o|o
 ·exact⟨aM o.1 c.next,o.2⟩
 ·exact⟨o.2,fun y=>by have:=M.lt i y;omega⟩
theorem Da.ext(M:Da h m S F)(hb:HB h)(x:Ext h h'):Da h' m S (Bm F h h'):=by
 refine⟨(M.s.ext hb x).mono (fun i o=>⟨aM o.1 x.next,fun y=>?_⟩) fun i o=>o.1,Bm.lt M.lt x.next,M.wf⟩;rcases y with y|y
 ·exact o.2 y
 ·have:=o.1;omega
theorem Da.less(M:Da h m S F)(s:∀i,F' i->F i):Da h m S F':=
 ⟨M.s.mono (fun i o=>⟨o.1,fun y=>o.2 (s i y)⟩) fun i o=>o.1,fun i o=>M.lt i (s i o),M.wf⟩
theorem Da.iI {T:Nat->Prop}(M:Da h m S F)(c:Av T h h')(t:∀i,T i->i<h.next->F i):Da h' m S F:=by
 refine⟨(M.s.frame c.next fun i o=>c.get i o.1 fun y=>o.2 (t i y o.1)).mono (fun i o=>⟨aM o.1 c.next,o.2⟩) fun i o=>o.1,fun i o=>aM (M.lt i o) c.next,M.wf⟩
theorem Da.same(M:Da h m S F)(sm:iW h h'):Da h' m S F:=
 ⟨(M.s.frame (by rw[sm.next];exact aE _) fun i _=>sm.get i).mono (fun i o=>⟨by rw[sm.next];exact o.1,o.2⟩) fun i o=>o.1,fun i o=>by rw[sm.next];exact M.lt i o,M.wf⟩
end
section
variable (A:Bu disp)(hK:10000<K)(M:Da h m S F)(hb:HB h)
include A hK M hb
theorem XN(n:Nat):wA disp K n:=fun T _ d hd=>rO A a_ T d hd
theorem Bhi(hd:16<=d):Ok (Ag TT disp K d false 134 [.ptr m 0] h) fun v h'=>v=I S.ready.2/\Da h' m S.ready.1 F/\Kf F h h'/\HB h':=by
 refine(Azt A hK hd (XN A hK M hb S.dr.ev.length) (aE _) M.s hb).mono ?_;rintro v h' ⟨e,s,c,o⟩;obtain⟨u,k⟩:=M.made s c M.wf.ready;exact⟨e,u,k,o⟩
theorem XO(hd:18<=d){z:Int}(u:Rng z):Ok (Ag TT disp K d false 98 [.ptr m 0,I z] h) fun v h'=>v=I (S.Ci z).2/\Da h' m (S.Ci z).1 F/\Kf F h h'/\HB h':=by
 refine(Ap2 A hK hd (XN A hK M hb S.dr.ev.length) (aE _) M.s hb M.wf.rng.1 M.wf.rng.2 u).mono ?_;rintro v h' ⟨e,s,c,o⟩;obtain⟨B,k⟩:=M.made s c (M.wf.Ci z);exact⟨e,B,k,o⟩
end
end
theorem Gj.lift{S:J1}(d:Gj h D S G):Gj h.lift D S G:=d.frame (aE _) fun i _=>Bx h i
theorem Gj.same {o h4:Ab}{S:J1}(d:Gj o D S (Bm G h.lift o))(sm:iW o h4):Gj h4 D S (Bm G h h4):=by
 refine(d.frame (h':=h4) (by rw[sm.next];exact aE _) fun j _=>sm.get j).mono (fun j hj=>?_) fun j hj=>?_
 ·rcases hj with y|y
  ·exact .inl y
  ·exact .inr ⟨y.1,by rw[sm.next];exact y.2⟩
 ·rw[sm.next]
  rcases hj with y|y
  ·exact d.lt _ (.inl y)
  ·rw[sm.next]at y;exact y.2
theorem Da.drv{p:Nat}{q c:Nat->Nat}{dr:J1}(M:Da h m S F)(hb:HB h)(a:At5 h m D p bl ql np q c S G (Out F h))(d:Gj h' D dr (Bm G h h'))(o:Av G h h'):
 Da h' m { S with dr:=dr } F/\Kf F h h':=by
 have cH:=o.mono a.sub.1;exact M.made ⟨Bm.lt M.s.lt cH.next,D,p,bl,ql,np,q,c,_,a.AU hb d o⟩ cH { toWp:=⟨M.wf.sm,M.wf.ps⟩,op:=M.wf.op }
def Mi.put(S:Mi)(e:En)(Ai Aw Ao seq:Int):Mi × Int:=
 if ¬(Es { e with Aw:=Aw } Ai S.u Ao seq).2=0 then(S,(Es { e with Aw:=Aw } Ai S.u Ao seq).2)else
 ({ S with dr:=(S.dr.append Ai (Be (Jh (Es { e with Aw:=Aw } Ai S.u Ao seq).1))).1 },
  if(S.dr.append Ai (Be (Jh (Es { e with Aw:=Aw } Ai S.u Ao seq).1))).2.2=0/\¬(S.dr.append Ai (Be (Jh (Es { e with Aw:=Aw } Ai S.u Ao seq).1))).2.1=S.u then 30 else(S.dr.append Ai (Be (Jh (Es { e with Aw:=Aw } Ai S.u Ao seq).1))).2.2)
theorem AY:List.replicate 5 (EV.int .i64 0)++List.replicate 44 (EV.int .u8 0)=Fr.zero.cells:=by kernel_rfl
theorem XP(A:Bu disp)(hK:10000<K)(hd:16<=d)(M:Da h m S F)(hb:HB h)(w:e.Wf)(Ai Aw Ao seq:Int):
 Ok (Ag TT disp K d false 177 [.ptr m 0,.agg e.cells,I Ai,I Aw,I Ao,I seq] h) fun v h'=>v=I (S.put e Ai Aw Ao seq).2/\Da h' m (S.put e Ai Aw Ao seq).1 F/\Kf F h h'/\HB h':=by
 obtain⟨dd,rfl⟩:=d_ d;rw[An4 A a_];have w':({ e with Aw:=Aw }:En).Wf:=⟨w.len,w.u8⟩;have el:=En.Bh w;have U:=En.Bh w';obtain⟨_,D,p,bl,ql,np,q,c,G,a⟩:=M.s;simp only[MV,Aa];refine Ok.hM (Ad _ _) rfl rfl (by show 5<e.cells.length;omega) ?_;obtain⟨h1,W,x1,X,_⟩:=nP h (.cells e.cells 141) (.cells (e.cells.set 5 (I Aw)) 141);rw[W];have X:h1.get h.next=some (.cells ({ e with Aw:=Aw }:En).cells 141):=X
 unfold Mi.put;generalize ({ e with Aw:=Aw }:En)=e' at X w' U⊢;have C:=x1.hb hb;have l7:=C _ _ X;have m1:=a.H5.ext fun i o g=>x1.at hb g
 have lm:=C _ _ m1.H5;rw[Hl l7,Cz X rfl,Ak U]
 try simp only[Aa,As]
 rw[Hl lm,m1.ou]
 try simp only[As]
 refine Ok.bE (AS (K:=K) w' (C8 C) hK Ai S.u Ao seq) (fun _ _ p=>p.2) ?_;rintro _ a7 h2 ⟨rfl,_⟩ _ x2;have ah:=x2.hb C;have Y:=tE w' Ai S.u Ao seq;generalize aa:Es e' Ai S.u Ao seq=fe at Y⊢;obtain⟨f,er⟩:=fe;have fl:=Fr.Bh Y;have zl:=Fr.Bh Fr.Hh;simp only[Aa,AY,As];rw[Hg];refine Ok.st f.cells (Ad _ _) rfl (by show Gk f.cells=49;rw[Bg,fl]) (Bo (by rw[zl];exact fl.symm)) ?_;obtain⟨h3,W,x3,ab,_⟩:=nP h2 (.cells Fr.zero.cells 153) (.cells f.cells 153);rw[W];have B:=x3.hb ah;have E:Ext h h3:=(x1.trans x2).trans x3;simp only[I,Ac];by_cases he:er=0
 ·subst he
  simp only[aB,aA,Aa,ak,MU];obtain⟨hf,aj,_,_⟩:=v8 w' (Ai:=Ai) (off:=S.u) (Ao:=Ao) (seq:=seq) (by rw[aa]);rw[aa]at hf;have hf:f=_:=hf;have al:iv f=true:=by rw[hf];exact aj
  have m3:=a.H5.ext fun i o g=>E.at hb g
  have aq:=B _ _ m3.H5;have au:=B _ _ ab
  try simp only[As]
  rw[Hl aq,m3.table]
  try simp only[Aa,As]
  rw[Hl au,Cz ab rfl,Ak fl]
  try simp only[Aa,As]
  refine Ok.bE (CM (K:=K) Y al (C8 B) hK) (fun _ _ p=>p.2) ?_;rintro _ bb h4 ⟨rfl,_⟩ _ x4;have aw:=x4.hb B;have ul:(Be (Jh f)).length=64:=by rw[Bi,nH Y]
  try simp only[Aa,As]
  rw[Hg];refine Ok.st (Be (Jh f)) (Ad _ _) rfl (by show Gk (Be (Jh f))=64;rw[Bg,ul]) (Bo (by rw[bR];exact ul.symm)) ?_;obtain⟨h5,W,x5,ad,_⟩:=nP h4 (.cells (List.replicate 64 (EV.int .u8 0)) 29) (.cells (Be (Jh f)) 29);rw[W];have J:=x5.hb aw;have ae:Ext h h5:=(E.trans x4).trans x5;have M5:=M.ext hb ae;clear m3 m1 a;obtain⟨_,D,p,bl,ql,np,q,c,G,a⟩:=M5.s;have ax:=J _ _ a.H5.H5;have ay:=J _ _ ad;simp only[MT,Aa,Ac,I,aB,aA,As];rw[Hl ax,a.H5.D8]
  try simp only[Aa,As]
  rw[Hl ay,Cz ad rfl,Ak ul]
  try simp only[Aa,As]
  refine Ok.bC (S:=G) (CX (K:=K) A a_ (d:=dd) a_ (fun k hk=>rO A a_ S.dr k hk) a.drv.lift (C8 J) Ai ul ⟨_,xh Y,rfl⟩) (fun _ _ p=>p.2.2.1) ?_;rintro _ h6 h7 s' ⟨rfl,d6,_,az⟩ sm c7 _;have L:=sm.hb az;obtain⟨O,k7⟩:=M5.drv J a (d6.same sm) c7;have T:Kf F h h7:=ae.oV k7;have O:=O.less fun i (hi:F i)=>Or.inl hi
  generalize S.dr.append Ai (Be (Jh f))=ap at O⊢;obtain⟨dr,off,er⟩:=ap;obtain⟨_,D,p,bl,ql,np,q,c,G,a⟩:=O.s;simp only[Aa,I,Ac];by_cases h0:er=0
  ·simp only[h0,aC,Aa,a.H5.ou,I,Ac,hJ]
   by_cases h1:off=S.u
   ·simp only[h1,aB,aA,Aa,Od,Np,ak]
    exact .ret ⟨rfl,O,T,L⟩
   ·simp only[h1,aQ,aC,Aa,Od,Np,bK]
    exact .ret ⟨rfl,O,T,L⟩
  ·simp only[h0,aA,Aa,Od,Np,hH,ak]
   exact .ret ⟨rfl,O,T,L⟩
 ·simp only[he,aQ,aC,Aa,bK]
  exact .ret ⟨rfl,(M.ext hb E).less fun i (hi:F i)=>Or.inl hi,E.kf,B⟩
def Mi.both(S:Mi)(e:En)(Ao seq:Int):Mi × Int × Int:=
 if ¬(S.put e S.a S.b Ao seq).2=0 then((S.put e S.a S.b Ao seq).1,S.a,(S.put e S.a S.b Ao seq).2)else
 (((S.put e S.a S.b Ao seq).1.put e S.b S.a Ao seq).1,S.b,((S.put e S.a S.b Ao seq).1.put e S.b S.a Ao seq).2)
theorem Bnh(A:Bu disp)(hK:10000<K)(hd:17<=d)(M:Da h m S F)(hb:HB h)(w:e.Wf)(Ao seq:Int):
 Ok (Ag TT disp K d false 135 [.ptr m 0,.agg e.cells,I Ao,I seq] h) fun v h'=>v=.tuple [I (S.both e Ao seq).2.1,I (S.both e Ao seq).2.2]/\Da h' m (S.both e Ao seq).1 F/\Kf F h h'/\HB h':=by
 obtain⟨dd,rfl⟩:=d_ d;rw[Amg A a_];have el:=En.Bh w;simp only[IP,Aa];obtain⟨Y,U,E,C,n1⟩:=nW h (.cells e.cells 141);rw[U];have o:=E.hb hb;have O:=M.ext hb E;obtain⟨_,D,p,bl,ql,np,q,c,G,a⟩:=O.s;rw[a.H5.oa]
 try simp only[Aa]
 rw[a.H5.ob,Cz C rfl,Ak el]
 try simp only[Aa]
 refine(XP A hK a_ O o w S.a S.b Ao seq).Am ?_;rintro _ h2 ⟨rfl,M2,T,u⟩;have B:Kf F h h2:=E.oV T;have C:=T.at o C (.inr ⟨aE _,a_⟩);unfold Mi.both;simp only[I,Ac];by_cases h0:(S.put e S.a S.b Ao seq).2=0
 ·simp only[h0,aB,aA,Aa,ak,Z7]
  rw[Cz C rfl,Ak el]
  try simp only[Aa]
  have M2:=M2.less fun i (J:F i)=>Or.inl J
  refine(XP A hK a_ M2 u w S.b S.a Ao seq).Am ?_;rintro _ h3 ⟨rfl,W,X,L⟩;exact .ret ⟨rfl,W,B.trans X,L⟩
 ·simp only[h0,aQ,aC,Aa,bK]
  exact .ret ⟨rfl,M2.less fun i (J:F i)=>Or.inl J,B,u⟩
theorem Bhf(D:Nat)(g:Gm)(p bl n:Nat)(a b u o:Int):(Abh D g p bl n a b u).set 267 (I o)=Abh D g p bl n a b o:=by
 unfold Abh;have B:([EV.ptr D 0]++gL g++Bf).length=263:=by rw[aF,Qe];rfl
 rw[eC _ _ a_,B];rfl
def Mi.ly(S:Mi):Mi:={ S with u:=Dl .i64 (S.u+1) }
theorem Mi.Wf.ly(w:S.Wf):S.ly.Wf:={ toWp:=⟨w.sm,w.ps⟩,op:=w.op }
theorem XQ(M:Da h m S F)(hb:HB h)(C:∀h',Da h' m S.ly F->Kf F h h'->HB h'->Ext h h'\/True->h'.next=h.next->(∀i,F i->h'.get i=h.get i)->Ok (kk h') Q):
 Ok (Iy (.ptr m 267) h fun v=>K3 lJ (bin TT .add 3) v (.int .i64 1) fun w=>hQ 1 (.ptr m 267) w h kk) Q:=by
 obtain⟨lt,D,p,bl,ql,np,q,c,G,a⟩:=M.s;rw[a.H5.ou];simp only[I,Ac];have ml:=z_ D S.g p bl (S.g.D*S.g.Z).toNat S.a S.b S.u;have lm:=hb _ _ a.H5.H5;refine Ok.hM a.H5.H5 rfl rfl a_ ?_;rw[show EV.int .i64 (Dl .i64 (S.u+1))=I (Dl .i64 (S.u+1))from rfl,Bhf];have c1:Av (fun i=>i=m) h (h.put m (.cells (Abh D S.g p bl (S.g.D*S.g.Z).toNat S.a S.b (Dl .i64 (S.u+1))) 96)):=(Av.refl (S:=fun i=>i=m) h).Ar (.inl rfl) lm _;have E:=a.AV hb (Ae _ _ _) c1;have B:∀i,F i->i≠m:=fun i o y=>by subst y;exact a.sub.2.1.2 o
 refine C _ ⟨⟨fun i o=>o.1,D,p,bl,ql,np,q,c,G,?_⟩,fun i o=>M.lt i o,M.wf.ly⟩ (c1.mono fun i o y=>B i y o) (hb.put lm _) (.inr trivial) rfl (fun i o=>Af _ (cR (B i o)));exact E
def Mi.Ox(B:Mi × Int × Int):Mi:=if B.2.1=B.1.b then B.1.ly else B.1
def Me.zero:Me:=⟨0,0,0,0,0,0⟩
def Mi.Te(e:En)(Ao seq:Int):Nat->Mi->Mi × Me × Int
 | 0,S=>(S,Me.zero,0)
 | n+1,S=>
  if ¬S.ready.2=0 then(S.ready.1,Me.zero,S.ready.2)else
  if(S.ready.1.both e Ao seq).2.2=0 then((S.ready.1.both e Ao seq).1.ly,⟨1,(S.ready.1.both e Ao seq).1.a,(S.ready.1.both e Ao seq).1.b,(S.ready.1.both e Ao seq).1.u,seq,Fq e.bytes⟩,0)else
  if(S.ready.1.both e Ao seq).2.2=34 then((S.ready.1.both e Ao seq).1,Me.zero,34)else
  if((Mi.Ox (S.ready.1.both e Ao seq)).Ci (S.ready.1.both e Ao seq).2.1).2=34 then(((Mi.Ox (S.ready.1.both e Ao seq)).Ci (S.ready.1.both e Ao seq).2.1).1,Me.zero,34)else
  Te e Ao seq n ((Mi.Ox (S.ready.1.both e Ao seq)).Ci (S.ready.1.both e Ao seq).2.1).1
def Mi.place(S:Mi)(e:En)(Ao seq:Int):Mi × Me × Int:=
 if ¬(Es e 0 0 Ao seq).2=0 then(S,Me.zero,(Es e 0 0 Ao seq).2)else Mi.Te e Ao seq 1000 S
def oR(bad:Nat->Int)(n:Nat):Nat:=((List.range n).filter fun i=>¬bad i=1).length
theorem Bj7(bad:Nat->Int)(n:Nat):oR bad n<=n:=by
 unfold oR;have:=fI (fun i=>decide (¬bad i=1)) (List.range n);simpa using this
theorem Bd4(bad:Nat->Int){z:Nat}(u:z<n)(hb:¬bad z=1):oR (fun i=>if i=z then 1 else bad i) n<oR bad n:=by
 unfold oR;induction n with
 | zero=>omega
 | succ n ih=>
  rw[cr,fH,fH,aF,aF];by_cases h:z=n
  ·subst h
   have e1:((List.range z).filter fun i=>decide (¬(if i=z then(1:Int)else bad i)=1))=(List.range z).filter fun i=>decide (¬bad i=1):=by
    refine List.filter_congr fun i o=>?_
    have:=cm.1 o;rw[aG a_]
   have e2:([z].filter fun i=>decide (¬(if i=z then(1:Int)else bad i)=1)) = []:=by simp
   have e3:([z].filter fun i=>decide (¬bad i=1)) = [z]:=by simp[hb]
   rw[e1,e2,e3];simp
  ·have:=ih a_
   have e2:([n].filter fun i=>decide (¬(if i=z then(1:Int)else bad i)=1)) = [n].filter fun i=>decide (¬bad i=1):=by
    have:¬n=z:=fun y=>h y.symm
    rw[eh,eh];simp[this]
   rw[e2];omega
theorem DE(S:Mi):S.ready.1.g=S.g/\S.ready.1.bad=S.bad:=by
 unfold Mi.ready;split
 ·exact⟨rfl,rfl⟩
 ·split
  ·exact⟨rfl,rfl⟩
  ·split<;>exact⟨rfl,rfl⟩
theorem xp(S:Mi)(e:En)(Ai Aw Ao seq:Int):(S.put e Ai Aw Ao seq).1.g=S.g/\(S.put e Ai Aw Ao seq).1.bad=S.bad/\(S.put e Ai Aw Ao seq).1.a=S.a/\(S.put e Ai Aw Ao seq).1.b=S.b/\(S.put e Ai Aw Ao seq).1.u=S.u/\(S.put e Ai Aw Ao seq).1.ps=S.ps:=by
 unfold Mi.put;split<;>exact⟨rfl,rfl,rfl,rfl,rfl,rfl⟩
theorem Br4(S:Mi)(e:En)(Ao seq:Int):(S.both e Ao seq).1.g=S.g/\(S.both e Ao seq).1.bad=S.bad/\(S.both e Ao seq).1.a=S.a/\(S.both e Ao seq).1.b=S.b/\(S.both e Ao seq).1.u=S.u/\(S.both e Ao seq).1.ps=S.ps /\
 ((S.both e Ao seq).2.1=S.a\/(S.both e Ao seq).2.1=S.b):=by
 unfold Mi.both;obtain⟨o,B,C,E,J,L⟩:=xp S e S.a S.b Ao seq;obtain⟨b1,b2,b3,b4,O,T⟩:=xp (S.put e S.a S.b Ao seq).1 e S.b S.a Ao seq;split
 ·exact⟨o,B,C,E,J,L,.inl rfl⟩
 ·exact⟨b1.trans o,b2.trans B,b3.trans C,b4.trans E,O.trans J,T.trans L,.inr rfl⟩
theorem Bqe(B:Mi × Int × Int):(Mi.Ox B).g=B.1.g/\(Mi.Ox B).bad=B.1.bad/\(Mi.Ox B).a=B.1.a/\(Mi.Ox B).b=B.1.b:=by
 unfold Mi.Ox;split<;>exact⟨rfl,rfl,rfl,rfl⟩
theorem A6k(S:Mi)(z:Int):(S.Ci z).1.g=S.g:=by
 unfold Mi.Ci;split
 ·rfl
 ·split
  ·rfl
  ·split
   ·rfl
   ·exact(AX _).1
theorem Azy(w:S.Wf){z:Int}(u:0<=Bq S.g z)(hb:¬S.bad z.toNat=1):oR (S.Ci z).1.bad (S.g.D*S.g.Z).toNat<oR S.bad (S.g.D*S.g.Z).toNat:=by
 have o:(S.Ci z).1.bad=fun i=>if i=z.toNat then 1 else S.bad i:=by
  unfold Mi.Ci;rw[aG a_,aG (by unfold Mi.E8;rw[aL hb,dV];simp)];split
  ·rfl
  ·exact(AX _).2.2.2.2
 rw[o];refine Bd4 S.bad ?_ hb;rcases I8 w.sm z with y|⟨_,_,_,B,C⟩<;>omega
theorem Bdi(w:S.Wf)(h:S.ready.2=0):(0<=Bq S.ready.1.g S.ready.1.a/\¬S.ready.1.bad S.ready.1.a.toNat=1)/\(0<=Bq S.ready.1.g S.ready.1.b/\¬S.ready.1.bad S.ready.1.b.toNat=1):=by
 rcases w.ready.op with⟨y,_⟩|y
 ·exfalso
  revert h y;unfold Mi.ready;split
  next h0=>intro _ y;exact h0.1 y
  ·split
   next hf=>intro y _;exact hf y
   ·cases hp:jV S.ps S.g.D.toNat with
    | none=>intro y _;simp at y
    | some t=>
     obtain⟨x,y,f_⟩:=t;obtain⟨a,b,_,_,_,_,_,_,_,_,u,_⟩:=tw w.ps hp;intro _ o;have o:x = -1:=o;have:=Jb w.sm (z:=x) (by rw[u.1];omega);omega
 ·exact y
theorem lr:TT.size 38=some 6/\TT.agg 38=some true:=⟨by kernel_rfl,by kernel_rfl⟩
theorem Bdz(A:Bu disp)(hK:10000<K)(hd:19<=d)(w:e.Wf)(Ao seq:Int){b5 C:Nat}:∀(n f:Nat) (h:Ab) (S:Mi) (F:Nat->Prop),oR S.bad (S.g.D*S.g.Z).toNat<n->n<=f->Da h m S F->HB h->F b5->F C->b5≠C ->
 h.get b5=some (.cells e.cells 141)->h.get C=some (.cells Me.zero.cells 38) ->
 Ok (Gr (Ag TT disp K d false) (Ag TT disp K d true) K f (.ptr m 0) (I Ao) (I seq) (.ptr b5 0) (.ptr C 0) h) fun v h'=>v=.tuple [.agg (Mi.Te e Ao seq n S).2.1.cells,I (Mi.Te e Ao seq n S).2.2]/\Da h' m (Mi.Te e Ao seq n S).1 (fun i=>F i/\¬i=C)/\Kf (fun i=>F i/\¬i=C) h h'/\HB h':=by
 intro n;induction n with
 | zero=>intro f h S F hg;omega
 | succ n ih=>
  intro f h S F hg hf M hb f5 f8 a0 g5 g8;obtain⟨f,rfl⟩:=d_ f;have el:=En.Bh w;have sub:∀i,(F i/\¬i=C)->F i:=fun i hi=>hi.1
  have fin:∀(me:Me) (o:Int) (L:Ab) (S5:Mi),Da L m S5 F->Kf F h L->HB L->(S5,me,o)=Mi.Te e Ao seq (n+1) S ->
   Ok (hQ 6 (.ptr C 0) (.agg me.cells) L fun h=>J5 TT [.c (.ptr C 0) 38,.v (I o)] h) fun v h'=>v=.tuple [.agg (Mi.Te e Ao seq (n+1) S).2.1.cells,I (Mi.Te e Ao seq (n+1) S).2.2]/\Da h' m (Mi.Te e Ao seq (n+1) S).1 (fun i=>F i/\¬i=C)/\Kf (fun i=>F i/\¬i=C) h h'/\HB h':=by
   intro me o L S5 M5 k5 J he;have al:=k5.at hb g8 f8;have l8:=J _ _ al;refine Ok.st me.cells al rfl rfl (Bo rfl) ?_;rw[Em (Ae _ _ _) lr.1 lr.2 rfl,<-he];have c8:Av (fun i=>i=C) L (L.put C (.cells me.cells 38)):=(Av.refl (S:=fun i=>i=C) L).Ar (.inl rfl) l8 _;exact .ret ⟨rfl,(M5.iI c8 fun i hi _=>hi▸f8).less sub,(k5.less sub).trans (c8.mono fun i hi y=>y.2 hi),J.put l8 _⟩
  unfold Mi.Te at fin⊢;simp only[Gr,dr];refine(Bhi A hK M hb a_).Am ?_;rintro _ h1 ⟨rfl,M1,k1,ao⟩;simp only[I,Ac];by_cases hr:S.ready.2=0
  ·rw[aG (show ¬¬S.ready.2=0 from fun y=>y hr)]at fin⊢
   have op:=Bdi M.wf hr;have au:=(DE S);simp only[hr,aB,aA,Aa,Xi];have a3:=k1.at hb g5 f5;rw[Cz a3 rfl,Ak el]
   try simp only[Aa]
   refine(Bnh A hK a_ M1 ao w Ao seq).Am ?_;rintro _ h2 ⟨rfl,M2,k2,E⟩;have O:Kf F h h2:=k1.trans k2;have U:=Br4 S.ready.1 e Ao seq;generalize hB:S.ready.1.both e Ao seq=B at M2 fin U⊢;obtain⟨T,z,o⟩:=B;simp only at M2 fin U⊢;have b6:z≠z->False:=fun y=>y rfl
   simp only[Aa,I,Ac];by_cases h0:o=0
   ·rw[aI h0]at fin⊢
    simp only[h0,aC,Aa,As];obtain⟨a4,D,p,bl,ql,np,q,c,G,a⟩:=M2.s;have lm:=E _ _ a.H5.H5;have a5:=O.at hb g5 f5;rw[Hl lm,a.H5.oa]
    try simp only[Aa,As]
    rw[Hl lm,a.H5.ob]
    try simp only[Aa,As]
    rw[Hl lm,a.H5.ou]
    try simp only[Aa,As]
    rw[Hl lm,a.H5.table]
    try simp only[Aa,As]
    rw[show ∀k:EV->R,Ny 32 1 (.ptr b5 6) none none none k=k (.slice b5 6 32 32 false)from fun k=>rfl]
    try simp only[Aa,As]
    have bs:Bs h2.lift (.slice b5 6 32 32 false) b5 6 e.bytes:=by
     refine⟨32,false,_,e.cells,by rw[w.len],by rw[w.len];omega,by rw[Bx];exact a5,rfl,by rw[el,w.len];exact aE _,?_⟩;unfold En.cells;rw[w.len];show(Be e.bytes).take 32=_;rw[bS (by rw[Bi,w.len];omega)]
    refine Ok.bE (wv (K:=K) hK bs (C8 E) w.u8 (by rw[w.len];omega)) (fun _ _ p=>p.2) ?_;rintro _ ca Y ⟨rfl,_⟩ _ x3;have W:=x3.hb E;have cc:=qX w.u8;simp only[Nk,Aa];rw[show Dl .i64 (Int.ofNat (Fq e.bytes))=(Fq e.bytes:Int)from Ch (by show -9223372036854775808<=((Fq e.bytes:Nat):Int);omega) (by show((Fq e.bytes:Nat):Int)<=_;omega)];rw[Ay (l:=(⟨1,T.a,T.b,T.u,seq,Fq e.bytes⟩:Me).cells) rfl]
    try simp only[Aa,As]
    rw[Hg];refine Ok.st (⟨1,T.a,T.b,T.u,seq,Fq e.bytes⟩:Me).cells (Ad _ _) rfl rfl (Bo rfl) ?_;obtain⟨h4,e_,x4,a7,n4⟩:=nP Y (.cells [EV.int .i64 0,.int .i64 0,.int .i64 0,.int .i64 0,.int .i64 0,.int .i64 0] 38) (.cells (⟨1,T.a,T.b,T.u,seq,Fq e.bytes⟩:Me).cells 38);rw[e_];have ab:=x4.hb W;have aw:Ext h2 h4:=x3.trans x4;have M4:=M2.ext E aw;refine XQ M4 ab ?_;intro L M5 k5 J _ n5 e5;have a8:Bm F h2 h4 Y.next:=.inr ⟨x3.next,a_⟩
    rw[Cz (by rw[e5 _ a8];exact a7) rfl,Ak (n:=6) rfl]
    try simp only[Aa]
    refine fin _ _ L T.ly (M5.less fun i (hi:F i)=>Or.inl hi) (O.trans (aw.oV k5)) J rfl
   ·rw[aG h0]at fin⊢
    simp only[h0,aA,Aa,Ac];by_cases ad:o=34
    ·rw[aI ad]at fin⊢
     simp only[ad,aC,Aa];rw[Ay (l:=Me.zero.cells) rfl];exact fin _ _ h2 T M2 O E rfl
    ·rw[aG ad]at fin⊢
     simp only[ad,aA,Aa,Xx];obtain⟨a4,D,p,bl,ql,np,q,c,G,a⟩:=M2.s;rw[a.H5.ob];simp only[I,Ac];have hz:0<=Bq T.g z/\¬T.bad z.toNat=1:=by
      obtain⟨e1,e2,e3,e4,_,_,e5⟩:=U;rw[e1,e2];rcases e5 with e5|e5
      ·rw[e5];exact op.1
      ·rw[e5];exact op.2
     have go:∀(Y:Ab),Da Y m (Mi.Ox (T,z,o)) F->Kf F h Y->HB Y ->
      Ok (Qj (Ag TT disp K d false) (Ag TT disp K d true) K (Gr (Ag TT disp K d false) (Ag TT disp K d true) K f) (.ptr m 0) (I Ao) (I seq) (.ptr b5 0) (.ptr C 0) (I z) Y) fun v h'=>
       v=.tuple [.agg (if((Mi.Ox (T,z,o)).Ci z).2=34 then(((Mi.Ox (T,z,o)).Ci z).1,Me.zero,(34:Int))else Mi.Te e Ao seq n ((Mi.Ox (T,z,o)).Ci z).1).2.1.cells,I (if((Mi.Ox (T,z,o)).Ci z).2=34 then(((Mi.Ox (T,z,o)).Ci z).1,Me.zero,(34:Int))else Mi.Te e Ao seq n ((Mi.Ox (T,z,o)).Ci z).1).2.2] /\
        Da h' m (if((Mi.Ox (T,z,o)).Ci z).2=34 then(((Mi.Ox (T,z,o)).Ci z).1,Me.zero,(34:Int))else Mi.Te e Ao seq n ((Mi.Ox (T,z,o)).Ci z).1).1 (fun i=>F i/\¬i=C)/\Kf (fun i=>F i/\¬i=C) h h'/\HB h':=by
      intro Y M3 k3 W;obtain⟨u1,u2,u3,u4⟩:=Bqe (T,z,o);simp only at u1 u2 u3 u4;have ag:0<=Bq (Mi.Ox (T,z,o)).g z/\¬(Mi.Ox (T,z,o)).bad z.toNat=1:=by rw[u1,u2];exact hz
      have less:=Azy M3.wf ag.1 ag.2;have qg:=A6k (Mi.Ox (T,z,o)) z;simp only[Qj,dr];refine(XO A hK M3 W a_ (Y6 M3.wf.sm ag.1)).Am ?_;rintro _ h4 ⟨rfl,M4,k4,ab⟩;have ae:Kf F h h4:=k3.trans k4;simp only[I,Ac];by_cases hq:((Mi.Ox (T,z,o)).Ci z).2=34
      ·rw[aI hq]at fin⊢
       simp only[hq,aC,Aa];rw[Ay (l:=Me.zero.cells) rfl];exact fin _ _ h4 _ M4 ae ab rfl
      ·rw[aG hq]
       simp only[hq,aA,Aa];have bj:=ae.at hb g5 f5;have bn:=ae.at hb g8 f8;refine(ih f h4 _ F ?_ a_ M4 ab f5 f8 a0 bj bn).mono ?_
       ·rw[qg]
        have e1:(Mi.Ox (T,z,o)).g=S.g:=by rw[u1,U.1,au.1]
        have e2:(Mi.Ox (T,z,o)).bad=S.bad:=by rw[u2,U.2.1,au.2]
        rw[e1,e2]at less;rw[e1];omega
       ·rintro v L ⟨ev,M5,k5,J⟩
        exact⟨ev,M5,(ae.less sub).trans k5,J⟩
     by_cases X:z=T.b
     ·simp only[X,aC,Aa]
      refine XQ M2 E ?_;intro Y M3 k3 W _ _ _;have:=go Y (by unfold Mi.Ox;rw[aI X];exact M3) (O.trans k3) W;rw[X]at this;exact this
     ·simp only[X,aA,Aa]
      exact go h2 (by unfold Mi.Ox;rw[aG X];exact M2) O E
  ·rw[aI hr]at fin⊢
   simp only[hr,aQ,aC,Aa];rw[Ay (l:=Me.zero.cells) rfl];exact fin _ _ h1 _ M1 k1 ao rfl
theorem TW(A:Bu disp)(hK:10000<K)(hd:20<=d)(M:Da h m S F)(hb:HB h)(w:e.Wf)(Ao seq:Int):
 Ok (Ag TT disp K d false 101 [.ptr m 0,.agg e.cells,I Ao,I seq] h) fun v h'=>v=.tuple [.agg (S.place e Ao seq).2.1.cells,I (S.place e Ao seq).2.2]/\Da h' m (S.place e Ao seq).1 F/\Kf F h h'/\HB h':=by
 obtain⟨dd,rfl⟩:=d_ d;rw[Ak1 A a_];have el:=En.Bh w;simp only[MR,Aa];rw[show(h.new (.cells e.cells 141)).next=h.next+1 from rfl];have U:Ext h ((h.new (.cells e.cells 141)).new (.cells Me.zero.cells 38)):=(Av.new _ _).Db _;have O:((h.new (.cells e.cells 141)).new (.cells Me.zero.cells 38)).get h.next=some (.cells e.cells 141):=by
  rw[Az _ (aN _)];exact Ad _ _
 have L:((h.new (.cells e.cells 141)).new (.cells Me.zero.cells 38)).get (h.next+1)=some (.cells Me.zero.cells 38):=Ad _ _;have n1:((h.new (.cells e.cells 141)).new (.cells Me.zero.cells 38)).next=h.next+2:=rfl
 rw[show(D5.cells [EV.int .i64 0,.int .i64 0,.int .i64 0,.int .i64 0,.int .i64 0,.int .i64 0] 38)=.cells Me.zero.cells 38 from rfl];generalize (h.new (.cells e.cells 141)).new (.cells Me.zero.cells 38)=h1 at U O L n1⊢;have o:=U.hb hb;rw[Cz O rfl,Ak el]
 try simp only[Aa]
 refine(AS (K:=K) w o hK 0 0 Ao seq).Am ?_;rintro _ h2 ⟨rfl,W⟩;have X:=W.hb o;have fw:=tE w 0 0 Ao seq;unfold Mi.place;generalize Es e 0 0 Ao seq=fe at fw⊢;obtain⟨f,er⟩:=fe;have fl:=Fr.Bh fw;have zl:=Fr.Bh Fr.Hh;simp only[Aa,AY];refine Ok.st f.cells (Ad _ _) rfl (by show Gk f.cells=49;rw[Bg,fl]) (Bo (by rw[zl];exact fl.symm)) ?_;obtain⟨u,e_,Y,_,_⟩:=nP h2 (.cells Fr.zero.cells 153) (.cells f.cells 153);rw[e_];have C:=Y.hb X;have E:Ext h u:=(U.trans W).trans Y;have J:Ext h1 u:=W.trans Y;have M3:=M.ext hb E;have O:=J.at o O;have L:=J.at o L;have ln:h.next+2<=u.next:=by have:=J.next;omega
 simp only[I,Ac];by_cases he:er=0
 ·subst he
  simp only[aB,aA,Aa,ak,Xq];have gl:=Bj7 S.bad (S.g.D*S.g.Z).toNat;have:(S.g.D*S.g.Z).toNat<=512:=by
   have h1:=M.wf.sm.d1;have h2:=M.wf.sm.z1;have u:=M.wf.sm.d0;have h4:=M.wf.sm.z0;obtain⟨m0,m1⟩:=Rl (a:=S.g.D) (b:=S.g.Z) (A:=8) (B:=64);omega
  refine(Bdz A hK a_ w Ao seq 1000 K u S (Bm F h u) a_ a_ M3 C (.inr ⟨a_,a_⟩) (.inr ⟨a_,a_⟩) a_ O L).mono ?_;rintro v h4 ⟨ev,M4,k4,aa⟩;refine⟨ev,M4.less fun i (T:F i)=>⟨.inl T,fun y=>by have:=M.lt i T;omega⟩,?_,aa⟩;exact Av.then (S:=fun i=>¬F i) (Ext.to E) k4 fun i y hl z=>y ⟨.inl z,fun y=>by have:=M.lt i z;omega⟩
 ·simp only[he,aQ,aC,Aa,bK]
  rw[Ay (l:=Me.zero.cells) rfl];refine Ok.st Me.zero.cells L rfl rfl (Bo rfl) ?_;rw[Em (Ae _ _ _) lr.1 lr.2 rfl];have l8:=C _ _ L;have x4:Ext h (u.put (h.next+1) (.cells Me.zero.cells 38)):=E.Ar (.inr a_) l8 _;exact .ret ⟨rfl,(M.ext hb x4).less fun i (T:F i)=>Or.inl T,x4.kf,C.put l8 _⟩
def Bs8:EV->Nat
 | .int _ n=>n.toNat
 | _=>0
def kq(x:List EV):List Nat:=x.map Bs8
theorem tF(l:List Nat):kq (Be l)=l:=by
 unfold kq Be;rw[List.map_map];exact(cY (fun a _=>rfl)).trans (List.map_id l)
theorem U8.Bul {x:List EV}(u:U8 x):Be (kq x)=x/\∀b∈kq x,b<256:=by
 obtain⟨l,h,rfl⟩:=u;rw[tF];exact⟨rfl,h⟩
theorem Bck(x:List EV):(kq x).length=x.length:=bk ..
theorem wE{l:List EV}{v w:EV}(hg:h.get i=some (.cells l t))(hs:TT.size t=some n)(o:TT.agg t=some true)(u:l.length=n):J5 TT [.c (.ptr i 0) t,.v v,.v w] h=some (.tuple [.agg l,v,w],h):=by
 have B:Jo h i 0 n=some l:=by
  unfold Jo;rw[hg];simp only;rw[<-nX];exact Ak u
 unfold J5;simp only[kB,hs,B,o]
def mB(s:List Nat)(x:Me)(Ai Aw:Int):Bool × List Nat:=
 if(iD s Ai x.off).2=0/\¬(iD s Ai x.off).1.kind=2/\(iD s Ai x.off).1.seq=x.seq/\(Vg (iD s Ai x.off).1).2=0/\(Vg (iD s Ai x.off).1).1.Aw=Aw/\((Fq (Vg (iD s Ai x.off).1).1.bytes:Nat):Int)=x.sum
 then(true,(Vg (iD s Ai x.off).1).1.bytes)else(false,Dt)
def Mi.Dc(S:Mi)(x:Me)(Ai Aw:Int):Mi × List Nat × Bool × Int:=
 if(S.dr.read Ai x.off).2.2=0 then({ S with dr:=(S.dr.read Ai x.off).1 },(mB (kq (S.dr.read Ai x.off).2.1) x Ai Aw).2,(mB (kq (S.dr.read Ai x.off).2.1) x Ai Aw).1,0)else
 if(S.dr.read Ai x.off).2.2=34 then({ S with dr:=(S.dr.read Ai x.off).1 },Dt,false,34)else
 if(S.dr.read Ai x.off).2.2=32 then((({ S with dr:=(S.dr.read Ai x.off).1 }:Mi).Ci Ai).1,Dt,false,if(({ S with dr:=(S.dr.read Ai x.off).1 }:Mi).Ci Ai).2=34 then 34 else 0)else
 ({ S with dr:=(S.dr.read Ai x.off).1 },Dt,false,0)
theorem Bk0(A:Bu disp)(hK:10000<K)(hd:19<=d)(M:Da h m S F)(hb:HB h){z:Int}(C:Rng z):
 Ok (Ag TT disp K d false 78 [.ptr m 0,I z] h) fun v h'=>v=I (if(S.Ci z).2=34 then 34 else 0)/\Da h' m (S.Ci z).1 F/\Kf F h h'/\HB h':=by
 obtain⟨e,rfl⟩:=d_ d;rw[Ama A a_];simp only[IH,dr];refine(XO A hK M hb a_ C).Am ?_;rintro _ E ⟨rfl,u,B,o⟩;simp only[I,Ac,Z2];by_cases h0:(S.Ci z).2=34
 ·simp only[h0,aC,Aa,bK]
  exact .ret ⟨rfl,u,B,o⟩
 ·simp only[h0,aA,Aa,ak]
  exact .ret ⟨rfl,u,B,o⟩
theorem jH:TT.size 51=some 32/\TT.agg 51=some true:=⟨by kernel_rfl,by kernel_rfl⟩
theorem oW:Dt.length=32:=rfl
theorem XR(w:f.Wf):(Vg f).1.Wf:=by
 unfold Vg;split
 ·exact En.Hh
 ·split
  ·exact En.Hh
  ·exact XE w.len w.u8
theorem Bmc {s:List Nat}(o:s.length=64)(hu:∀b∈s,b<256)(x:Me)(Ai Aw:Int)(w:(iD s Ai x.off).1.Wf):(mB s x Ai Aw).2.length=32/\∀b∈(mB s x Ai Aw).2,b<256:=by
 unfold mB;split
 ·exact⟨(XR w).len,(XR w).u8⟩
 ·exact⟨rfl,fun b hb=>by rw[bO hb];decide⟩
theorem XS(A:Bu disp)(hK:10000<K)(hd:20<=d)(M:Da h m S F)(hb:HB h)(x:Me){Ai:Int}(hz:Rng Ai)(Aw:Int):
 Ok (Ag TT disp K d false 46 [.ptr m 0,.agg x.cells,I Ai,I Aw] h) fun v h'=>v=.tuple [.agg (Be (S.Dc x Ai Aw).2.1),.bool (S.Dc x Ai Aw).2.2.1,I (S.Dc x Ai Aw).2.2.2]/\(S.Dc x Ai Aw).2.1.length=32/\(∀b∈(S.Dc x Ai Aw).2.1,b<256)/\Da h' m (S.Dc x Ai Aw).1 F/\Kf F h h'/\HB h':=by
 obtain⟨dd,rfl⟩:=d_ d;rw[Amo A a_];simp only[NF,Aa];rw[show(h.new (.cells x.cells 38)).next=h.next+1 from rfl,K4];have x1:Ext h ((h.new (.cells x.cells 38)).new (.cells (Be Dt) 51)):=(Av.new _ _).Db _;have E:((h.new (.cells x.cells 38)).new (.cells (Be Dt) 51)).get h.next=some (.cells x.cells 38):=by
  rw[Az _ (aN _)];exact Ad _ _
 have C:((h.new (.cells x.cells 38)).new (.cells (Be Dt) 51)).get (h.next+1)=some (.cells (Be Dt) 51):=Ad _ _;have n1:((h.new (.cells x.cells 38)).new (.cells (Be Dt) 51)).next=h.next+2:=rfl
 generalize (h.new (.cells x.cells 38)).new (.cells (Be Dt) 51)=h1 at x1 E C n1⊢;have U:=x1.hb hb;have M1:=M.ext hb x1;obtain⟨_,D,p,bl,ql,np,q,c,G,a⟩:=M1.s;have lm:=U _ _ a.H5.H5;have l5:=U _ _ E;have F5:Bm F h h1 h.next:=.inr ⟨aE _,a_⟩
 have F8:Bm F h h1 (h.next+1):=.inr ⟨a_,a_⟩;rw[Hl lm,a.H5.D8]
 try simp only[Aa,As]
 rw[Hl l5,Aj E rfl (v:=I x.off) rfl]
 try simp only[Aa,As]
 refine Ok.bC (S:=G) (VF (K:=K) A (d:=dd) a_ (fun k hk=>rO A a_ S.dr k hk) a.drv.lift (C8 U) Ai x.off) (fun _ _ p=>p.2.2.2.1) ?_;rintro _ h2 h3 s' ⟨rfl,hlen,d2,_,bp⟩ sm c3 bq;have ae:=sm.hb bp;have bt:U8 (S.dr.read Ai x.off).2.1:=by
  obtain⟨V,M',qc,qh,cs,hs,ms,F',a'⟩:=d2.Ph;have w:=a'.dev.wf;have wz:∀i,i<(S.dr.begin Ai).dv.n->((S.dr.begin Ai).dv.zs i).Wf (S.dr.begin Ai).dv.size:=by
   have e1:(S.dr.read Ai x.off).1.dv=(S.dr.begin Ai).dv.begin Ai:=rfl;rw[e1]at w;unfold Dv.begin at w;split at w
   ·exact w.zs
   ·exact w.zs
  show U8 (Dv.read _ Ai x.off).1;unfold Dv.read;split
  ·exact U8.zs
  next bu=>
   obtain⟨j,rfl,hj⟩:=Dv.tV (show(S.dr.begin Ai).dv.Fm Ai=0 by
    rcases Decidable.em ((S.dr.begin Ai).dv.Fm Ai=0)with y|y
    ·exact y
    ·exact absurd y bu)
   unfold jL;split
   ·exact U8.zs
   ·split
    next hc=>
     have:x.off.toNat<((S.dr.begin (j:Int)).dv.zs j).l.length:=by
      have:=hc.2;rw[bD]at this;omega
     rw[bD,aD this];exact(wz j hj).u8 _ (bI _)
    ·exact U8.zs
 obtain⟨M3,k3⟩:=M1.drv U a (d2.same sm) c3;have E:=k3.at U E F5;have C:=k3.at U C F8;obtain⟨hs,ab⟩:=bt.Bul;have O:(kq (S.dr.read Ai x.off).2.1).length=64:=by rw[Bck,hlen]
 unfold Mi.Dc;rw[<-hs];generalize hR:S.dr.read Ai x.off=R at M3 hs ab O⊢;obtain⟨dr,sec,er⟩:=R;simp only at M3 hs ab O⊢;rw[tF];generalize kq sec=s at hs ab O⊢;simp only[Aa,As];rw[Hg (by rcases bq with rfl|⟨w,rfl,_⟩<;>kernel_rfl)];have ul:(Be s).length=64:=by rw[Bi,O]
 refine Ok.st (Be s) (Ad _ _) rfl (by show Gk (Be s)=64;rw[Bg,ul]) (Bo (by rw[bR];exact ul.symm)) ?_;obtain⟨h4,e_,x4,ay,_⟩:=nP h3 (.cells (List.replicate 64 (EV.int .u8 0)) 29) (.cells (Be s) 29);rw[e_];have o:=x4.hb ae;have E:=x4.at ae E;have C:=x4.at ae C;have M4:=(M3.ext ae x4).less fun i (W:Bm F h h1 i)=>Or.inl W
 have af:Kf F h h4:=(x1.oV k3).trans x4.kf;have ln:h.next+2<=h4.next:=by have:=x4.next;have:=k3.next;omega
 have sub:∀i,F i->Bm F h h1 i:=fun i W=>.inl W
 have fin:∀(l:List Nat) (ok:Bool) (er:Int) (u:Ab) (S5:Mi),l.length=32->(∀b∈l,b<256)->Da u m S5 (Bm F h h1)->Kf F h u->HB u->u.get (h.next+1)=some (.cells (Be Dt) 51) ->
  Ok (hQ 32 (.ptr (h.next+1) 0) (.agg (Be l)) u fun h'=>J5 TT [.c (.ptr (h.next+1) 0) 51,.v (.bool ok),.v (I er)] h') fun v h'=>v=.tuple [.agg (Be l),.bool ok,I er]/\l.length=32/\(∀b∈l,b<256)/\Da h' m S5 F/\Kf F h h'/\HB h':=by
  intro l ok er u S5 hl bx M5 k5 L ag;have ul:(Be l).length=32:=by rw[Bi,hl]
  have l8:=L _ _ ag;refine Ok.st (Be l) ag rfl (by show Gk (Be l)=32;rw[Bg,ul]) (Bo (by show(Be Dt).length=(Be l).length;rw[ul,Bi,oW])) ?_;rw[wE (Ae _ _ _) jH.1 jH.2 ul];have nF:¬F (h.next+1):=fun y=>by have:=M.lt _ y;omega
  have c8:Av (fun i=>i=h.next+1) u (u.put (h.next+1) (.cells (Be l) 51)):=(Av.refl (S:=fun i=>i=h.next+1) u).Ar (.inl rfl) l8 _;exact .ret ⟨rfl,hl,bx,(M5.iI c8 fun i W _=>W▸F8).less sub,k5.trans (c8.mono fun i W y=>nF (W▸y)),L.put l8 _⟩
 have no:∀(er:Int) (u:Ab) (S5:Mi),Da u m S5 (Bm F h h1)->Kf F h u->HB u->u.get (h.next+1)=some (.cells (Be Dt) 51) ->
  Ok (Bp (L8 1) (List.replicate 32 (EV.int .u8 0)) [] fun v=>hQ 32 (.ptr (h.next+1) 0) v u fun h'=>J5 TT [.c (.ptr (h.next+1) 0) 51,.v (.bool false),.v (I er)] h') fun v h'=>v=.tuple [.agg (Be Dt),.bool false,I er]/\Dt.length=32/\(∀b∈Dt,b<256)/\Da h' m S5 F/\Kf F h h'/\HB h':=fun er u S5 M5 k5 L ag=>by
  rw[K4,Ay (l:=Be Dt) rfl];exact fin Dt false er u S5 rfl (fun b hb=>by rw[bO hb];decide) M5 k5 L ag
 simp only[I,Ac];by_cases h0:er=0
 ·rw[aI h0]
  simp only[h0,aC,Aa,Zw];have bz:=o _ _ ay;have b5:=o _ _ E;obtain⟨_,D,p,bl,ql,np,q,c,G,a⟩:=M4.s;have b6:=o _ _ a.H5.H5
  try simp only[As]
  rw[Hl b6,a.H5.table]
  try simp only[Aa,As]
  rw[Hl bz,Cz ay rfl,Ak ul]
  try simp only[Aa,As]
  rw[Hl b5,Aj E rfl (v:=I x.off) rfl]
  try simp only[Aa,As]
  refine Ok.bE (U_ (K:=K) O ab (C8 o) hK Ai x.off) (fun _ _ p=>p.2.2) ?_;rintro _ dB u ⟨rfl,fw,_⟩ _ x5;have gw:=Bmc O ab x Ai Aw fw;have J:mB s x Ai Aw=if(iD s Ai x.off).2=0/\¬(iD s Ai x.off).1.kind=2/\(iD s Ai x.off).1.seq=x.seq/\(Vg (iD s Ai x.off).1).2=0/\(Vg (iD s Ai x.off).1).1.Aw=Aw/\((Fq (Vg (iD s Ai x.off).1).1.bytes:Nat):Int)=x.sum
   then(true,(Vg (iD s Ai x.off).1).1.bytes)else(false,Dt):=rfl
  generalize mB s x Ai Aw=gd at J gw⊢;generalize iD s Ai x.off=Ph at fw J⊢;obtain⟨f,b8⟩:=Ph;simp only at fw J⊢;have L:=x5.hb o;have fl:=Fr.Bh fw;have zl:=Fr.Bh Fr.Hh;simp only[Aa,AY,As];rw[Hg];refine Ok.st f.cells (Ad _ _) rfl (by show Gk f.cells=49;rw[Bg,fl]) (Bo (by rw[zl];exact fl.symm)) ?_;obtain⟨h6,e_,x6,ah,_⟩:=nP u (.cells Fr.zero.cells 153) (.cells f.cells 153);rw[e_];have X:=x6.hb L;have ai:Ext h4 h6:=x5.trans x6;have E:=ai.at o E;have C:=ai.at o C;have M6:=(M4.ext o ai).less fun i (W:Bm F h h1 i)=>Or.inl W
  have a2:Kf F h h6:=af.trans ai.kf;have stop:=no 0 h6 _ M6 a2 X C;have l0:f.cells[0]? = some (I f.kind):=rfl;have l4:f.cells[4]? = some (I f.seq):=rfl;simp only[I,Ac]at stop⊢;by_cases c1:b8=0
  ·by_cases c2:f.kind=2
   ·rw[aG (by rintro⟨_,y,_⟩;exact y c2)]at J;subst J
    simp only[c1,aB,aA,Aa,Cy ah rfl,l0,I,Ac,c2,aC,Jl,Jd];exact stop
   ·by_cases c3:f.seq=x.seq
    ·simp only[c1,aB,aA,Aa,Cy ah rfl,l0,I,Ac,c2,Jl,l4,Jd]
     rw[Aj E rfl (v:=I x.seq) rfl];simp only[I,Ac,c3,aB,aA,Aa,Zz];rw[Cz ah rfl,Ak fl]
     try simp only[Aa]
     refine(A3c (K:=K) fw X hK).Am ?_;rintro _ h7 ⟨rfl,T,x7⟩;generalize Vg f=re at T J⊢;obtain⟨e,ca⟩:=re;simp only at T J⊢;have cc:=x7.hb X;have el:=En.Bh T;have cf:=En.Bh En.Hh;simp only[Aa];rw[En.Jq];refine Ok.st e.cells (Ad _ _) rfl (by show Gk e.cells=38;rw[Bg,el]) (Bo (by rw[cf];exact el.symm)) ?_;obtain⟨h8,e_,x8,Y,_⟩:=nP h7 (.cells En.zero.cells 141) (.cells e.cells 141);rw[e_];have B:=x8.hb cc;have aj:Ext h6 h8:=x7.trans x8;have E:=aj.at X E;have C:=aj.at X C;have M8:=(M6.ext X aj).less fun i (W:Bm F h h1 i)=>Or.inl W
     have a4:Kf F h h8:=a2.trans aj.kf;have stop:=no 0 h8 _ M8 a4 B C;have ct:=B _ _ Y;have cv:=B _ _ E;simp only[I,Ac]at stop⊢;by_cases c4:ca=0
     ·simp only[c4,aB,aA,Aa,As]
      rw[Hl ct,Aj Y rfl (v:=I e.Aw) rfl];simp only[I,Ac];by_cases c5:e.Aw=Aw
      ·simp only[c5,aB,aA,Je,Aa,As]
       obtain⟨_,D,p,bl,ql,np,q,c,G,a⟩:=M8.s;have cw:=B _ _ a.H5.H5;rw[Hl cw,a.H5.table]
       try simp only[Aa,As]
       rw[show ∀k:EV->R,Ny 32 1 (.ptr h7.next 6) none none none k=k (.slice h7.next 6 32 32 false)from fun k=>rfl]
       try simp only[Aa,As]
       have bs:Bs h8.lift (.slice h7.next 6 32 32 false) h7.next 6 e.bytes:=by
        refine⟨32,false,_,e.cells,by rw[T.len],by rw[T.len];omega,by rw[Bx];exact Y,rfl,by rw[el,T.len];exact aE _,?_⟩;unfold En.cells;rw[T.len];show(Be e.bytes).take 32=_;rw[bS (by rw[Bi,T.len];omega)]
       refine Ok.bE (wv (K:=K) hK bs (C8 B) T.u8 (by rw[T.len];omega)) (fun _ _ p=>p.2) ?_;rintro _ ea h9 ⟨rfl,_⟩ _ x9;have a5:=x9.hb B;have E:=x9.at B E;have C:=x9.at B C;have Y:=x9.at B Y;have M9:=(M8.ext B x9).less fun i (W:Bm F h h1 i)=>Or.inl W
       have a6:Kf F h h9:=a4.trans x9.kf;have stop:=no 0 h9 _ M9 a6 a5 C;have O:=qX T.u8;simp only[Nk,Aa,As];rw[show Dl .i64 (Int.ofNat (Fq e.bytes))=(Fq e.bytes:Int)from Ch (by show -9223372036854775808<=((Fq e.bytes:Nat):Int);omega) (by show((Fq e.bytes:Nat):Int)<=_;omega)];rw[Hl cv,Aj E rfl (v:=I x.sum) rfl];simp only[I,Ac]at stop⊢;by_cases c6:((Fq e.bytes:Nat):Int)=x.sum
       ·rw[aI ⟨c1,c2,c3,c4,c5,c6⟩]at J;subst J
        simp only[c6,aB,aA,G4,Aa,Zt];rw[Cz Y rfl,show Ou e.cells (0+6) 32=some (Be e.bytes)from by
         rw[F9 (by rw[el];omega)];show some ((Be e.bytes).take 32)=_;rw[bS (by rw[Bi,T.len];omega)]]
        try simp only[Aa]
        exact fin e.bytes true 0 h9 _ T.len T.u8 M9 a6 a5 C
       ·rw[aG (by rintro⟨_,_,_,_,_,y⟩;exact c6 y)]at J;subst J
        simp only[c6,aQ,aC,G4,Aa];exact stop
      ·rw[aG (by rintro⟨_,_,_,_,y,_⟩;exact c5 y)]at J;subst J
       simp only[c5,aQ,aC,Je,Aa,G4];exact stop
     ·rw[aG (by rintro⟨_,_,_,y,_⟩;exact c4 y)]at J;subst J
      simp only[c4,aQ,aC,Je,Aa,G4];exact stop
    ·rw[aG (by rintro⟨_,_,y,_⟩;exact c3 y)]at J;subst J
     simp only[c1,aB,aA,Aa,Cy ah rfl,l0,I,Ac,c2,Jl,l4,Jd];rw[Aj E rfl (v:=I x.seq) rfl];simp only[I,Ac,c3,aQ,aC,Aa];exact stop
  ·rw[aG (by rintro⟨y,_⟩;exact c1 y)]at J;subst J
   simp only[c1,aQ,aC,Aa,Jl,Jd];exact stop
 ·rw[aG h0]
  simp only[h0,aA,Aa,Ac];by_cases al:er=34
  ·rw[aI al]
   simp only[al,aC,Aa];exact no 34 h4 _ M4 af o C
  ·rw[aG al]
   simp only[al,aA,Aa,Ac];by_cases ao:er=32
   ·rw[aI ao]
    simp only[ao,aC,Aa];rw[Ay (l:=Be Dt) rfl];refine(Bk0 A hK a_ M4 o hz).Am ?_;rintro _ u ⟨rfl,M5,k5,L⟩;have C:=k5.at o C F8;have cy:Kf F h4 u:=k5.less sub;exact fin Dt false _ u _ rfl (fun b hb=>by rw[bO hb];decide) M5 (af.trans cy) L C
   ·rw[aG ao]
    simp only[ao,aA,Aa];exact no 0 h4 _ M4 af o C
section
def oK(g:Gm)(x:Me):Bool:=decide (x.state=1)&&meB g x
theorem XT(M:Da h m S F)(hb:HB h){x:Me}(E:Rng x.Ai)(hm:Rng x.Aw):
 Ok (Lj K (.ptr m 0) (.agg x.cells) h) fun v h'=>v=.bool (oK S.g x)/\Ext h h':=by
 simp only[Lj,Aa];obtain⟨T,J,u,B,_⟩:=nW h (.cells x.cells 38);rw[J];have o:=u.hb hb;obtain⟨_,D,p,bl,ql,np,q,c,G,a⟩:=M.s.ext hb u;have C:=o _ _ B;have lm:=o _ _ a.H5.H5;rw[Hl C,Aj B rfl (v:=I x.state) rfl];simp only[I,Ac];unfold oK;by_cases h0:x.state=1
 ·simp only[h0,aC,Aa,As,bF]
  rw[Hl C,Cz B rfl,Ak (n:=6) rfl]
  try simp only[Aa,As]
  rw[Hl lm,a.H5.pU]
  try simp only[Aa,As]
  refine Ok.bE (BD (K:=K) (C8 o) h0 E hm) (fun _ _ p=>p.2) ?_;rintro _ L h2 ⟨rfl,_⟩ _ O;simp only[Lz,Aa];exact .ret ⟨rfl,u.trans O⟩
 ·simp only[h0,aA,Aa,As,bB,Lz]
  exact .ret ⟨rfl,u⟩
section
variable (A:Bu disp)(hK:10000<K)(hd:20<=d)(M:Da h m S F)(hb:HB h)(x:Me)
include A hK hd M hb
theorem XU {ih:EV->EV->EV->EV->EV->Ab->R}{u:EV}{z:Int}(hz:Rng z)(Y:∀k:EV->R,kD 2 2 true 2 u (.int .i64 (i:Int)) k=k (.agg [I z,I mt]))(f3:F b3)(f4:F b4)
 (g3:h.get b3=some (.cells x.cells 38)) (W:h.get b4=some (.cells (Be Dt) 51))
 (B:(S.Dc x z mt).2.2.1=true\/¬(S.Dc x z mt).2.2.2=0->∀h',Da h' m (S.Dc x z mt).1 F->Kf (fun i=>F i/\¬i=b4) h h'->HB h'->((S.Dc x z mt).2.1.length=32/\∀b∈(S.Dc x z mt).2.1,b<256)->Q (.tuple [.agg (Be (S.Dc x z mt).2.1),I (S.Dc x z mt).2.2.2]) h')
 (E:¬((S.Dc x z mt).2.2.1=true\/¬(S.Dc x z mt).2.2.2=0)->∀h',Da h' m (S.Dc x z mt).1 F->Kf F h h'->HB h'->Ok (Mz (Ag TT disp K d false) (Ag TT disp K d true) K ih (.ptr m 0) (.ptr b3 0) (.ptr b4 0) u (.int .i64 (i:Int)) h') Q) :
 Ok (Ri (Ag TT disp K d false) (Ag TT disp K d true) K ih (.ptr m 0) (.ptr b3 0) (.ptr b4 0) u (.int .i64 (i:Int)) h) Q:=by
 simp only[Ri,Y,Aa];refine Ok.st [I z,I mt] (Ad _ _) rfl rfl rfl ?_;obtain⟨h1,e_,X,g7,_⟩:=nP h (.cells [EV.int .i64 0,.int .i64 0] 107) (.cells [I z,I mt] 107);rw[e_];have ab:=X.hb hb;have M1:=M.ext hb X;have sub:∀i,F i->Bm F h h1 i:=fun i o=>.inl o
 rw[Cz (X.at hb g3) rfl,Ak (n:=6) rfl]
 try simp only[Aa]
 rw[show ∀k:EV->R,ki 2 1 (.ptr h.next 0) (.int .i64 0) k=k (.ptr h.next 0)from fun k=>rfl,Aj g7 rfl (v:=I z) rfl];rw[show ∀k:EV->R,ki 2 1 (.ptr h.next 0) (.int .i64 1) k=k (.ptr h.next 1)from fun k=>rfl,Aj g7 rfl (v:=I mt) rfl];refine(XS A hK hd M1 ab x hz mt).Am ?_;rintro _ h2 ⟨rfl,bl,bu,M2,k2,U⟩;have ae:Kf F h h2:=X.oV k2;generalize S.Dc x z mt=C at B E bl bu M2⊢;obtain⟨T,l,ok,er⟩:=C;simp only at B E bl bu M2⊢;have ul:(Be l).length=32:=by rw[Bi,bl]
 simp only[Aa,K4];refine Ok.st (Be l) (Ad _ _) rfl (by show Gk (Be l)=32;rw[Bg,ul]) (Bo (by show(Be Dt).length=(Be l).length;rw[ul,Bi,oW])) ?_;obtain⟨J,e_,x3,g8,_⟩:=nP h2 (.cells (Be Dt) 51) (.cells (Be l) 51);rw[e_];have L:=x3.hb U;have M3:=(M2.ext U x3).less fun i (o:F i)=>Or.inl (sub i o)
 have O:Kf F h J:=ae.trans x3.kf;have W:=O.at hb W f4;have l4:=L _ _ W;have stop:(ok=true\/¬er=0)->Ok (Tt 32 (.ptr h2.next 0) J fun ah=>hQ 32 (.ptr b4 0) ah J fun h=>J5 TT [.c (.ptr b4 0) 51,.v (I er)] h) Q:=fun hc=>by
  rw[Cz g8 rfl,Ak ul]
  try simp only[Aa]
  refine Ok.st (Be l) W rfl (by show Gk (Be l)=32;rw[Bg,ul]) (Bo (by show(Be Dt).length=(Be l).length;rw[ul,Bi,oW])) ?_;rw[Em (Ae _ _ _) jH.1 jH.2 ul];have c8:Av (fun i=>i=b4) J (J.put b4 (.cells (Be l) 51)):=(Av.refl (S:=fun i=>i=b4) J).Ar (.inl rfl) l4 _;exact .ret (B hc _ (M3.iI c8 fun i o _=>o▸f4) ((O.less fun i o=>o.1).trans (c8.mono fun i o y=>y.2 o)) (L.put l4 _) ⟨bl,bu⟩)
 simp only[I,Ac]at stop⊢;cases ok with
 | true=>
  simp only[Aa,Ac,Rs];exact stop (.inl rfl)
 | false=>
  simp only[Aa,Ac,Rs];by_cases h0:er=0
  ·simp only[h0,aB,aA,Aa]
   exact E (by rw[h0];simp) J M3 O L
  ·simp only[h0,aQ,aC,Aa]
   exact stop (.inr h0)
end
def Mi.read(S:Mi)(x:Me):Mi × List Nat × Int:=
 if oK S.g x=false then(S,Dt,10)else
 if(S.Dc x x.Ai x.Aw).2.2.1=true\/¬(S.Dc x x.Ai x.Aw).2.2.2=0 then((S.Dc x x.Ai x.Aw).1,(S.Dc x x.Ai x.Aw).2.1,(S.Dc x x.Ai x.Aw).2.2.2)else
 if((S.Dc x x.Ai x.Aw).1.Dc x x.Aw x.Ai).2.2.1=true\/¬((S.Dc x x.Ai x.Aw).1.Dc x x.Aw x.Ai).2.2.2=0 then(((S.Dc x x.Ai x.Aw).1.Dc x x.Aw x.Ai).1,((S.Dc x x.Ai x.Aw).1.Dc x x.Aw x.Ai).2.1,((S.Dc x x.Ai x.Aw).1.Dc x x.Aw x.Ai).2.2.2)else
 (((S.Dc x x.Ai x.Aw).1.Dc x x.Aw x.Ai).1,Dt,41)
theorem Bj6(A:Bu disp)(hK:10000<K)(hd:21<=d)(M:Da h m S F)(hb:HB h){x:Me}(hz:Rng x.Ai)(hm:Rng x.Aw):
 Ok (Ag TT disp K d false 105 [.ptr m 0,.agg x.cells] h) fun v h'=>v=.tuple [.agg (Be (S.read x).2.1),I (S.read x).2.2]/\((S.read x).2.1.length=32/\∀b∈(S.read x).2.1,b<256)/\Da h' m (S.read x).1 F/\Kf F h h'/\HB h':=by
 obtain⟨dd,rfl⟩:=d_ d;rw[Alz A a_];simp only[MS,Aa];rw[show(h.new (.cells x.cells 38)).next=h.next+1 from rfl,K4];have x1:Ext h ((h.new (.cells x.cells 38)).new (.cells (Be Dt) 51)):=(Av.new _ _).Db _;have B:((h.new (.cells x.cells 38)).new (.cells (Be Dt) 51)).get h.next=some (.cells x.cells 38):=by
  rw[Az _ (aN _)];exact Ad _ _
 have E:((h.new (.cells x.cells 38)).new (.cells (Be Dt) 51)).get (h.next+1)=some (.cells (Be Dt) 51):=Ad _ _;have n1:((h.new (.cells x.cells 38)).new (.cells (Be Dt) 51)).next=h.next+2:=rfl
 generalize (h.new (.cells x.cells 38)).new (.cells (Be Dt) 51)=h1 at x1 B E n1⊢;have J:=x1.hb hb;have M1:=M.ext hb x1;rw[Cz B rfl,Ak (n:=6) rfl]
 try simp only[Aa]
 refine(XT (K:=K) M1 J hz hm).Am ?_;rintro _ h2 ⟨rfl,X⟩;have u:=X.hb J;have Y:Ext h h2:=x1.trans X;have M2:=M.ext hb Y;have B:=X.at J B;have E:=X.at J E;have ln:=X.next
 have f3:Bm F h h2 h.next:=.inr ⟨aE _,a_⟩
 have f4:Bm F h h2 (h.next+1):=.inr ⟨a_,a_⟩;have sub:∀i,F i->Bm F h h2 i:=fun i L=>.inl L
 have back:∀h',Kf (fun i=>Bm F h h2 i/\¬i=h.next+1) h2 h'->Kf F h h':=fun h' k=>
  Av.then (S:=fun i=>¬F i) (Ext.to Y) k fun i y hl z=>y ⟨.inl z,fun y=>by have:=M.lt i z;omega⟩
 have fin:∀(C:Ab) (T:Mi) (er:Int),Da C m T (Bm F h h2)->Kf (Bm F h h2) h2 C->HB C ->
  Ok (Bp (L8 1) (Be Dt) [] fun v=>hQ 32 (.ptr (h.next+1) 0) v C fun h'=>J5 TT [.c (.ptr (h.next+1) 0) 51,.v (I er)] h') fun v h'=>v=.tuple [.agg (Be Dt),I er]/\(Dt.length=32/\∀b∈Dt,b<256)/\Da h' m T F/\Kf F h h'/\HB h':=by
  intro C T er M3 O o;have E:=O.at u E f4;have l4:=o _ _ E;rw[Ay (l:=Be Dt) rfl];refine Ok.st (Be Dt) E rfl rfl (Bo rfl) ?_;rw[Em (Ae _ _ _) jH.1 jH.2 rfl];have c8:Av (fun i=>i=h.next+1) C (C.put (h.next+1) (.cells (Be Dt) 51)):=(Av.refl (S:=fun i=>i=h.next+1) C).Ar (.inl rfl) l4 _;exact .ret ⟨rfl,⟨rfl,fun b hb=>by rw[bO hb];decide⟩,(M3.iI c8 fun i L _=>L▸f4).less sub,back _ ((O.less fun i L=>L.1).trans (c8.mono fun i L y=>y.2 L)),o.put l4 _⟩
 unfold Mi.read;cases hl:oK S.g x with
 | false=>
  simp only[Aa,bK];exact fin h2 S 10 M2 (Av.refl _) u
 | true=>
  rw[aG (by simp)];simp only[Aa,Zq];rw[Aj B rfl (v:=I x.Ai) rfl]
  try simp only[Aa]
  rw[Aj B rfl (v:=I x.Aw) rfl,Ay (l:=[I x.Ai,I x.Aw]) rfl]
  try simp only[Aa]
  rw[Aj B rfl (v:=I x.Aw) rfl]
  try simp only[Aa]
  rw[Aj B rfl (v:=I x.Ai) rfl,Ay (l:=[I x.Aw,I x.Ai]) rfl,Ay (l:=[I x.Ai,I x.Aw,I x.Aw,I x.Ai]) rfl];obtain⟨k,rfl⟩:∃k,K=k+3:=⟨K-3,a_⟩;rw[show Dr (Ag TT disp (k+3) dd false) (Ag TT disp (k+3) dd true) (k+3) (k+3)=Dr (Ag TT disp (k+3) dd false) (Ag TT disp (k+3) dd true) (k+3) (k+2+1)from rfl];rw[Dr];simp only[Ac,show decide ((0:Int)<2)=true from rfl,Aa];refine XU A hK a_ M2 u x (i:=0) hz (fun k=>rfl) f3 f4 B E ?_ ?_
  ·intro U C M3 O o bl
   rw[aI U];exact⟨rfl,bl,M3.less sub,back _ O,o⟩
  ·intro U C M3 O o
   rw[aG U];simp only[Mz,Ac];rw[show Dl .i64 (((0:Nat):Int)+1)=((1:Nat):Int)from rfl];rw[show Dr (Ag TT disp (k+3) dd false) (Ag TT disp (k+3) dd true) (k+3) (k+2)=Dr (Ag TT disp (k+3) dd false) (Ag TT disp (k+3) dd true) (k+3) (k+1+1)from rfl];rw[Dr];simp only[Ac,show decide (((1:Nat):Int)<2)=true from rfl,Aa];have ae:=O.at u B f3;have af:=O.at u E f4;refine XU A hK a_ M3 o x (i:=1) hm (fun k=>rfl) f3 f4 ae af ?_ ?_
   ·intro U h4 M4 k4 W bl
    rw[aI U];exact⟨rfl,bl,M4.less sub,back _ ((O.less fun i L=>L.1).trans k4),W⟩
   ·intro U h4 M4 k4 W
    rw[aG U];simp only[Mz,Ac];rw[show Dl .i64 (((1:Nat):Int)+1)=((2:Nat):Int)from rfl];rw[Dr];simp only[Ac,show decide (((2:Nat):Int)<2)=false from rfl,Aa,Zo,K4];exact fin h4 _ 41 M4 (O.trans k4) W
section
variable (A:Bu disp)(hK:10000<K)(hd:20<=d){b7:Nat}(M:Da h m S F)(hb:HB h)(x:Me)
include A hK hd M hb
theorem XV{v30:EV}{z:Int}{l0:List Nat}{gd:Nat}(hn:n<=10)(a9:gd<=10)(X:l0.length=32)(hz:Rng z)(ao:∀k:EV->R,kD 2 2 true 2 v30 (.int .i64 (i:Int)) k=k (.agg [I z,I mt]))(f3:F b3)(f4:F b4)(f7:F b7)(bb:b4≠b7)
 (g3:h.get b3=some (.cells x.cells 38)) (g4:h.get b4=some (.cells (Be Dt) 51)) (Y:h.get b7=some (.cells (Be l0) 51))
 (U:¬(S.Dc x z mt).2.2.2=0->∀h',Da h' m (S.Dc x z mt).1 F->Kf (fun i=>F i/\¬i=b4/\¬i=b7) h h'->HB h'->Q (.tuple [.agg (Be Dt),I 0,I (S.Dc x z mt).2.2.2]) h')
 (B:(S.Dc x z mt).2.2.2=0->∀h',Da h' m (S.Dc x z mt).1 F->Kf (fun i=>F i/\¬i=b7) h h'->HB h'->(if(S.Dc x z mt).2.2.1=true then(S.Dc x z mt).2.1 else l0).length=32 ->
  h'.get b7=some (.cells (Be (if(S.Dc x z mt).2.2.1=true then(S.Dc x z mt).2.1 else l0)) 51) ->
  Ok (Ii (Ag TT disp K d false) (Ag TT disp K d true) K ih (.ptr m 0) (.ptr b3 0) (.ptr b4 0) (.ptr b7 0) (I ((if(S.Dc x z mt).2.2.1=true/\(S.Dc x z mt).1.E8 z=false then n+1 else n:Nat):Int)) (I ((if(S.Dc x z mt).2.2.1=true then gd+1 else gd:Nat):Int)) v30 (.int .i64 (i:Int)) h') Q) :
 Ok (Qh (Ag TT disp K d false) (Ag TT disp K d true) K ih (.ptr m 0) (.ptr b3 0) (.ptr b4 0) (.ptr b7 0) (I (n:Int)) (I (gd:Int)) v30 (.int .i64 (i:Int)) h) Q:=by
 simp only[Qh,ao,Aa];refine Ok.st [I z,I mt] (Ad _ _) rfl rfl rfl ?_;obtain⟨h1,e_,x1,o,n1⟩:=nP h (.cells [EV.int .i64 0,.int .i64 0] 107) (.cells [I z,I mt] 107);rw[e_];have aa:=x1.hb hb;have M1:=M.ext hb x1;have au:Bm F h h1 h.next:=.inr ⟨aE _,a_⟩
 have sub:∀i,F i->Bm F h h1 i:=fun i u=>.inl u
 rw[Cz (x1.at hb g3) rfl,Ak (n:=6) rfl]
 try simp only[Aa]
 rw[show ∀k:EV->R,ki 2 1 (.ptr h.next 0) (.int .i64 0) k=k (.ptr h.next 0)from fun k=>rfl,Aj o rfl (v:=I z) rfl];rw[show ∀k:EV->R,ki 2 1 (.ptr h.next 0) (.int .i64 1) k=k (.ptr h.next 1)from fun k=>rfl,Aj o rfl (v:=I mt) rfl];refine(XS A hK hd M1 aa x hz mt).Am ?_;rintro _ h2 ⟨rfl,bl,bu,M2,k2,W⟩;have aw:Kf F h h2:=x1.oV k2;have o:=k2.at aa o au;generalize S.Dc x z mt=C at U B bl bu M2⊢;obtain⟨T,l,ok,er⟩:=C;simp only at U B bl bu M2⊢;have ul:(Be l).length=32:=by rw[Bi,bl]
 have ax:(Be l0).length=32:=by rw[Bi,X]
 simp only[Aa,K4];refine Ok.st (Be l) (Ad _ _) rfl (by show Gk (Be l)=32;rw[Bg,ul]) (Bo (by show(Be Dt).length=(Be l).length;rw[ul,Bi,oW])) ?_;obtain⟨E,e_,x3,ay,_⟩:=nP h2 (.cells (Be Dt) 51) (.cells (Be l) 51);rw[e_];have J:=x3.hb W;have o:=x3.at W o;have ab:=(M2.ext W x3).less fun i (u:Bm F h h1 i)=>Or.inl u
 have M3:=ab.less sub;have L:Kf F h E:=aw.trans x3.kf;have g4:=L.at hb g4 f4;have Y:=L.at hb Y f7;have l4:=J _ _ g4;have l7:=J _ _ Y;simp only[I,Ac];by_cases h0:er=0
 ·simp only[h0,aB,aA,Aa,Yp]
  have B:=B h0;cases ok with
  | false=>
   simp only[Aa];have:=B E M3 (L.less fun i u=>u.1) J (by simp[X]) (by simpa using Y);simpa [I]using this
  | true=>
   simp only[Aa,Yb];rw[Cz ay rfl,Ak ul]
   try simp only[Aa]
   refine Ok.st (Be l) Y rfl (by show Gk (Be l)=32;rw[Bg,ul]) (Bo (by show(Be l0).length=(Be l).length;rw[ul,ax])) ?_;have c7:Av (fun i=>i=b7) E (E.put b7 (.cells (Be l) 51)):=(Av.refl (S:=fun i=>i=b7) E).Ar (.inl rfl) l7 _;have M4:=ab.iI c7 fun i u _=>by
    have u:i=b7:=u;subst u;exact sub _ f7
   have ad:(E.put b7 (.cells (Be l) 51)).get b7=some (.cells (Be l) 51):=Ae _ _ _;have o:(E.put b7 (.cells (Be l) 51)).get h.next=some (.cells [I z,I mt] 107):=by
    rw[Af _ (fun y=>by have:=M.lt _ f7;omega)];exact o
   have ae:Kf (fun i=>F i/\¬i=b7) h (E.put b7 (.cells (Be l) 51)):=(L.less fun i u=>u.1).trans (c7.mono fun i u y=>y.2 u);have O:HB (E.put b7 (.cells (Be l) 51)):=J.put l7 _;generalize E.put b7 (.cells (Be l) 51)=h4 at M4 ad o ae O⊢;simp only[I,Ac];rw[Ch (n:=(gd:Int)+1),Ch (n:=(n:Int)+1)];rw[show ∀k:EV->R,ki 2 1 (.ptr h.next 0) (.int .i64 0) k=k (.ptr h.next 0)from fun k=>rfl,Aj o rfl (v:=I z) rfl];refine(J4 (K:=K) M4.s O hz).Am ?_;rintro _ h5 ⟨rfl,x5⟩;have a0:=x5.hb O;have M5:=(M4.ext O x5).less fun i (u:Bm F h h1 i)=>Or.inl u
   have this:=B h5 (M5.less sub) (ae.trans x5.kf) a0 (by simpa using bl) (by simpa using x5.at O ad);cases af:T.E8 z with
   | true=>
    simp only[Aa];simpa [I,af]using this
   | false=>
    simp only[Aa,Ac];simpa [I,af]using this
 ·simp only[h0,aQ,aC,Aa]
  rw[Ay (l:=Be Dt) rfl];refine Ok.st (Be Dt) g4 rfl rfl (Bo rfl) ?_;rw[wE (Ae _ _ _) jH.1 jH.2 rfl];have c8:Av (fun i=>i=b4) E (E.put b4 (.cells (Be Dt) 51)):=(Av.refl (S:=fun i=>i=b4) E).Ar (.inl rfl) l4 _;exact .ret (U h0 _ (M3.iI c8 fun i u _=>u▸f4) ((L.less fun i u=>u.1).trans (c8.mono fun i u y=>y.2.1 u)) (J.put l4 _))
end
def Mi.rU(x:Me)(C D:Mi × List Nat × Bool × Int):Mi × List Nat × Int × Int:=
 if ¬D.2.2.2=0 then(D.1,Dt,0,D.2.2.2)else
 if C.2.2.1=false/\D.2.2.1=false then(D.1,Dt,0,41)else
 (D.1,if D.2.2.1=true then D.2.1 else C.2.1,(if C.2.2.1=true/\C.1.E8 x.Ai=false then 1 else 0)+(if D.2.2.1=true/\D.1.E8 x.Aw=false then 1 else 0),0)
def Mi.check(S:Mi)(x:Me):Mi × List Nat × Int × Int:=
 if oK S.g x=false then(S,Dt,0,10)else
 if ¬(S.Dc x x.Ai x.Aw).2.2.2=0 then((S.Dc x x.Ai x.Aw).1,Dt,0,(S.Dc x x.Ai x.Aw).2.2.2)else
 Mi.rU x (S.Dc x x.Ai x.Aw) ((S.Dc x x.Ai x.Aw).1.Dc x x.Aw x.Ai)
theorem VD(A:Bu disp)(hK:10000<K)(hd:21<=d)(M:Da h m S F)(hb:HB h){x:Me}(hz:Rng x.Ai)(hm:Rng x.Aw):
 Ok (Ag TT disp K d false 17 [.ptr m 0,.agg x.cells] h) fun v h'=>v=.tuple [.agg (Be (S.check x).2.1),I (S.check x).2.2.1,I (S.check x).2.2.2]/\(S.check x).2.1.length=32/\Da h' m (S.check x).1 F/\Kf F h h'/\HB h':=by
 obtain⟨dd,rfl⟩:=d_ d;rw[Akk A a_];simp only[MW,Aa];rw[show(h.new (.cells x.cells 38)).next=h.next+1 from rfl,K4];have x1:Ext h ((h.new (.cells x.cells 38)).new (.cells (Be Dt) 51)):=(Av.new _ _).Db _;have E:((h.new (.cells x.cells 38)).new (.cells (Be Dt) 51)).get h.next=some (.cells x.cells 38):=by
  rw[Az _ (aN _)];exact Ad _ _
 have T:((h.new (.cells x.cells 38)).new (.cells (Be Dt) 51)).get (h.next+1)=some (.cells (Be Dt) 51):=Ad _ _;have n1:((h.new (.cells x.cells 38)).new (.cells (Be Dt) 51)).next=h.next+2:=rfl
 generalize (h.new (.cells x.cells 38)).new (.cells (Be Dt) 51)=h1 at x1 E T n1⊢;have U:=x1.hb hb;have M1:=M.ext hb x1;rw[Cz E rfl,Ak (n:=6) rfl]
 try simp only[Aa]
 refine(XT (K:=K) M1 U hz hm).Am ?_;rintro _ h2 ⟨rfl,x2⟩;have J:=x2.hb U;have ab:Ext h h2:=x1.trans x2;have M2:=M.ext hb ab;have E:=x2.at U E;have T:=x2.at U T;have ln:=x2.next
 have bj:Bm F h h2 (h.next+1):=.inr ⟨a_,a_⟩;have l4:=J _ _ T;unfold Mi.check;cases hl:oK S.g x with
 | false=>
  simp only[Aa,bK];rw[Ay (l:=Be Dt) rfl];refine Ok.st (Be Dt) T rfl rfl (Bo rfl) ?_;rw[wE (Ae _ _ _) jH.1 jH.2 rfl];have x3:Ext h (h2.put (h.next+1) (.cells (Be Dt) 51)):=ab.Ar (.inr a_) l4 _;exact .ret ⟨rfl,rfl,(M.ext hb x3).less fun i (B:F i)=>Or.inl B,x3.kf,J.put l4 _⟩
 | true=>
  rw[aG (by simp)];simp only[Aa,Yh,K4];obtain⟨W,e_,x3,g7,n3⟩:=nW h2 (.cells (Be Dt) 51);rw[e_];have ae:=x3.hb J;have aj:Ext h W:=ab.trans x3;have M3:=M.ext hb aj;have E:=x3.at J E;have T:=x3.at J T;have f3:Bm F h W h.next:=.inr ⟨aE _,a_⟩
  have f4:Bm F h W (h.next+1):=.inr ⟨a_,a_⟩;have f7:Bm F h W h2.next:=.inr ⟨a_,a_⟩
  have X:h.next+1≠h2.next:=a_
  have sub:∀i,F i->Bm F h W i:=fun i B=>.inl B
  have back:∀h',Kf (fun i=>Bm F h W i/\¬i=h.next+1/\¬i=h2.next) W h'->Kf F h h':=fun h' k=>
   Av.then (S:=fun i=>¬F i) (Ext.to aj) k fun i y hl z=>y ⟨.inl z,fun y=>by have:=M.lt i z;omega,fun y=>by have:=M.lt i z;omega⟩
  rw[Aj E rfl (v:=I x.Ai) rfl]
  try simp only[Aa]
  rw[Aj E rfl (v:=I x.Aw) rfl,Ay (l:=[I x.Ai,I x.Aw]) rfl]
  try simp only[Aa]
  rw[Aj E rfl (v:=I x.Aw) rfl]
  try simp only[Aa]
  rw[Aj E rfl (v:=I x.Ai) rfl,Ay (l:=[I x.Aw,I x.Ai]) rfl,Ay (l:=[I x.Ai,I x.Aw,I x.Aw,I x.Ai]) rfl];obtain⟨k,rfl⟩:∃k,K=k+3:=⟨K-3,a_⟩;rw[show Dd (Ag TT disp (k+3) dd false) (Ag TT disp (k+3) dd true) (k+3) (k+3)=Dd (Ag TT disp (k+3) dd false) (Ag TT disp (k+3) dd true) (k+3) (k+2+1)from rfl];rw[Dd];simp only[Ac,show decide ((0:Int)<2)=true from rfl,Aa];refine XV A hK a_ M3 ae x (i:=0) (n:=0) (gd:=0) (l0:=Dt) a_ a_ rfl hz (fun k=>rfl) f3 f4 f7 X E T g7 ?_ ?_
  ·intro hc h4 M4 k4 Y
   rw[aI hc];exact⟨rfl,rfl,M4.less sub,back _ k4,Y⟩
  ·intro hc h4 M4 k4 Y L al
   rw[aG (show ¬¬(S.Dc x x.Ai x.Aw).2.2.2=0 from fun y=>y hc)];have a1:=k4.at ae E ⟨f3,a_⟩;have ao:=k4.at ae T ⟨f4,X⟩;generalize S.Dc x x.Ai x.Aw=C at M4 L al⊢;simp only[Ii,Ac];rw[show Dl .i64 (((0:Nat):Int)+1)=((1:Nat):Int)from rfl];rw[show Dd (Ag TT disp (k+3) dd false) (Ag TT disp (k+3) dd true) (k+3) (k+2)=Dd (Ag TT disp (k+3) dd false) (Ag TT disp (k+3) dd true) (k+3) (k+1+1)from rfl];rw[Dd];simp only[Ac,show decide (((1:Nat):Int)<2)=true from rfl,Aa];have a2:(if C.2.2.1=true/\C.1.E8 x.Ai=false then 0+1 else 0)<=10:=by split<;>omega
   have a3:(if C.2.2.1=true then 0+1 else 0)<=10:=by split<;>omega
   refine XV A hK a_ M4 Y x (i:=1) a2 a3 L hm (fun k=>rfl) f3 f4 f7 X a1 ao al ?_ ?_
   ·intro hc h5 M5 k5 aa
    unfold Mi.rU;rw[aI hc];exact⟨rfl,rfl,M5.less sub,back _ ((k4.less fun i B=>⟨B.1,B.2.2⟩).trans k5),aa⟩
   ·intro hc h5 M5 k5 aa o u
    unfold Mi.rU;rw[aG (show ¬¬(C.1.Dc x x.Aw x.Ai).2.2.2=0 from fun y=>y hc)];have aq:=k5.at Y ao ⟨f4,X⟩;have au:=aa _ _ aq;generalize C.1.Dc x x.Aw x.Ai=D at M5 o u⊢;simp only[Ii,Ac];rw[show Dl .i64 (((1:Nat):Int)+1)=((2:Nat):Int)from rfl];rw[Dd];simp only[Ac,show decide (((2:Nat):Int)<2)=false from rfl,Aa,Yx,I];have a4:Kf (fun i=>Bm F h W i/\¬i=h.next+1/\¬i=h2.next) W h5:=(k4.less fun i B=>⟨B.1,B.2.2⟩).trans (k5.less fun i B=>⟨B.1,B.2.2⟩);have fin:∀(l:List Nat) (n er:Int),l.length=32->Ok (hQ 32 (.ptr (h.next+1) 0) (.agg (Be l)) h5 fun h'=>J5 TT [.c (.ptr (h.next+1) 0) 51,.v (I n),.v (I er)] h') fun v h'=>v=.tuple [.agg (Be l),I n,I er]/\l.length=32/\Da h' m D.1 F/\Kf F h h'/\HB h':=by
     intro l n er hl;have ul:(Be l).length=32:=by rw[Bi,hl]
     refine Ok.st (Be l) aq rfl (by show Gk (Be l)=32;rw[Bg,ul]) (Bo (by show(Be Dt).length=(Be l).length;rw[ul,Bi,oW])) ?_;rw[wE (Ae _ _ _) jH.1 jH.2 ul];have c8:Av (fun i=>i=h.next+1) h5 (h5.put (h.next+1) (.cells (Be l) 51)):=(Av.refl (S:=fun i=>i=h.next+1) h5).Ar (.inl rfl) au _;exact .ret ⟨rfl,hl,(M5.iI c8 fun i B _=>B▸f4).less sub,back _ (a4.trans (c8.mono fun i B y=>y.2.1 B)),aa.put au _⟩
    cases c1:C.2.2.1 with
    | false=>
     rw[c1]at o u;cases c2:D.2.2.1 with
     | false=>
      simp only[aX,hH,ak,and_self,bK,show((0:Nat):Int)=0 from rfl,aC,Aa,K4];rw[Ay (l:=Be Dt) rfl];exact fin Dt 0 41 rfl
     | true=>
      rw[c2]at o u;simp only[bK]at o u;simp only[aX,hH,ak,gP,and_false,hJ,bK,Aa,Lt,show decide (((0+1:Nat):Int)=0)=false from rfl];rw[Cz u rfl,Ak (by rw[Bi,o])];simp only[Aa];have:=fin D.2.1 ((if D.1.E8 x.Aw=false then 0+1 else 0:Nat):Int) 0 o;simp only[I]at this;cases O:D.1.E8 x.Aw<;>simpa [O]using this
    | true=>
     rw[c1]at L o u;simp only[bK]at L;cases c2:D.2.2.1 with
     | false=>
      rw[c2]at o u;simp only[bK,aX,ak]at o u;simp only[gP,hH,ak,hJ,bK,aX,Aa,Lt,show decide (((0+1:Nat):Int)=0)=false from rfl];rw[Cz u rfl,Ak (by rw[Bi,o])];simp only[Aa];have:=fin C.2.1 ((if C.1.E8 x.Ai=false then 0+1 else 0:Nat):Int) 0 L;simp only[I]at this;cases O:C.1.E8 x.Ai<;>simpa [O]using this
     | true=>
      rw[c2]at o u;simp only[bK]at o u;simp only[gP,hH,ak,hJ,bK,Aa,Lt,show decide (((0+1+1:Nat):Int)=0)=false from rfl];rw[Cz u rfl,Ak (by rw[Bi,o])];simp only[Aa];have:=fin D.2.1 (((if C.1.E8 x.Ai=false then 1 else 0)+(if D.1.E8 x.Aw=false then 1 else 0):Nat):Int) 0 o;simp only[I]at this;cases a6:C.1.E8 x.Ai<;>cases O:D.1.E8 x.Aw<;>simpa [a6,O]using this
end
def J1.new(n size:Nat)(op:Int):J1:=⟨⟨n,size,op,0,false,fun _=>Zn.empty⟩,[],[]⟩
def Mi.new(g:Gm):Mi:=⟨g,J1.new (g.D*g.Z).toNat g.S.toNat g.O,fun _=>[],fun _=>0,-1,-1,0⟩
theorem Bpn(s:Sm g)(hb:HB h){M zl p:Nat}{z q c:Nat->Nat}(d:oO h D V M zl (g.D*g.Z).toNat z (fun _=>0) g.S g.O 0 false .Aq .Aq [] (fun _=>Zn.empty))
 (nd:(h0.next<=D/\h0.next<=M)/\h0.next<=V/\h0.next<=zl/\∀d,d<(g.D*g.Z).toNat->h0.next<=z d) (W:Acs h m D p bl (g.D*g.Z).toNat g (-1) (-1) 0 (fun _=>0)) (T:Fi h p ql g.D.toNat q c g (fun _=>[]))
 (nm:(h0.next<=m/\h0.next<=bl)/\h0.next<=p/\h0.next<=ql/\∀d,d<g.D.toNat->h0.next<=q d/\h0.next<=c d) (le:h0.next<=h.next):Da h m (Mi.new g) (fun i=>i<h0.next):=by
 have:=s.d0;have:=s.d1;have:=s.z0;have:=s.z1;have:=s.s0;have:=s.s1;obtain⟨m0,m1⟩:=Rl (a:=g.D) (b:=g.Z) (A:=8) (B:=64);have C:=d.dev;have L:∀i,i<(g.D*g.Z).toNat->∃s,h.get (z i)=some (.cells [s,I g.S,I 0,I 0,.bool false] 146):=fun i u=>by
  obtain⟨s,a,_⟩:=(C.Ai i u).Ai;exact⟨s,a⟩
 have hF:∀i,A31 V zl (g.D*g.Z).toNat z (fun _=>0) (fun _=>Zn.empty) i->i=V\/i=zl\/∃d,d<(g.D*g.Z).toNat/\i=z d:=fun i u=>by
  rcases u with y|y|⟨d,hd,y|y⟩
  ·exact .inl y
  ·exact .inr (.inl y)
  ·exact .inr (.inr ⟨d,hd,y⟩)
  ·exact absurd rfl y.1
 have kind:∀i o,h.get i=some o->(∀l,o≠.cells l 104)->(∀l,o≠.vec l 101 1)->(∀l,o≠.cells l 146)->¬A31 V zl (g.D*g.Z).toNat z (fun _=>0) (fun _=>Zn.empty) i:=fun i o J Y h2 h3 u=>by
  rcases hF i u with y|y|⟨d,hd,y⟩
  ·subst y;rw[C.dev]at J;cases J;exact Y _ rfl
  ·subst y;rw[C.row]at J;cases J;exact h2 _ rfl
  ·subst y
   obtain⟨s,hs⟩:=L d hd;rw[hs]at J;cases J;exact h3 _ rfl
 have U:∀i o,h.get i=some o->(∀l,o≠.cells l 104)->(∀l,o≠.vec l 101 1)->(∀l,o≠.cells l 146)->(∀l,o≠.cells l 100)->(∀l,o≠.map l)->¬(i=D\/i=M\/A31 V zl (g.D*g.Z).toNat z (fun _=>0) (fun _=>Zn.empty) i):=fun i o J Y h2 h3 h4 h5 u=>by
  rcases u with y|y|y
  ·subst y;rw[d.D8]at J;cases J;exact h4 _ rfl
  ·subst y;rw[d.marks]at J;cases J;exact h5 _ rfl
  ·exact kind i o J Y h2 h3 y
 have E:∀i,A31 V zl (g.D*g.Z).toNat z (fun _=>0) (fun _=>Zn.empty) i->i<h.next/\h0.next<=i:=fun i u=>by
  rcases hF i u with y|y|⟨d,hd,y⟩
  ·subst y;exact⟨hb _ _ C.dev,nd.2.1⟩
  ·subst y;exact⟨hb _ _ C.row,nd.2.2.1⟩
  ·subst y
   obtain⟨s,hs⟩:=L d hd;exact⟨hb _ _ hs,nd.2.2.2 d hd⟩
 have hS:g.S=((g.S.toNat:Nat):Int):=a_
 have X:Gj h D (J1.new (g.D*g.Z).toNat g.S.toNat g.O) (fun i=>i=D\/i=M\/A31 V zl (g.D*g.Z).toNat z (fun _=>0) (fun _=>Zn.empty) i):=by
  have zw:∀size:Nat,0<size->Zn.empty.Wf size:=fun size hs=>⟨fun x hx=>(by cases hx),by show 0<=4;omega,aE _,cS _,fun _=>hs⟩
  have dw:Dv.Wf ⟨(g.D*g.Z).toNat,g.S.toNat,g.O,0,false,fun _=>Zn.empty⟩:=⟨by show g.S.toNat<=64;omega,by show(g.D*g.Z).toNat<=512;omega,fun i _=>zw _ (by show 0<g.S.toNat;omega)⟩;refine⟨fun i u=>?_,⟨by show 0+0<=200;omega,fun e he=>(by cases he),fun e he=>(by cases he)⟩,V,M,0,0,.Aq,.Aq,[],_,d.D8,d.marks,fun e he=>(by cases he),.nil _ _ _ _,.nil _ _ _ _,⟨dw,fun i u=>(E i u).1,zl,z,fun _=>0,?_,fun i u=>u⟩,⟨fun i u=>.inr (.inr u),.inl rfl,.inr (.inl rfl),fun y=>absurd y (bT _),fun y=>absurd y (bT _)⟩,⟨kind _ _ d.D8 (by intros;simp) (by intros;simp) (by intros;simp),kind _ _ d.marks (by intros;simp) (by intros;simp) (by intros;simp),fun y=>absurd y (bT _),fun y=>absurd y (bT _),fun y=>absurd y (bT _)⟩⟩
  ·rcases u with y|y|y
   ·subst y;exact hb _ _ d.D8
   ·subst y;exact hb _ _ d.marks
   ·exact(E i y).1
  ·show Mf h V zl (g.D*g.Z).toNat z (fun _=>0) ((g.S.toNat:Nat):Int) g.O 0 false (fun _=>Zn.empty)
   rw[<-hS];exact C
 refine⟨⟨fun i u=>u.1,D,p,bl,ql,g.D.toNat,q,c,_,W,T,⟨rfl,s,fun d _=>cS _⟩,X,?_,?_⟩,fun i u=>aM u le,{ toWp:=⟨s,fun d _ x hx=>by cases hx⟩,op:=.inl ⟨rfl,rfl⟩ }⟩
 ·have k:=U
  exact⟨k _ _ W.H5 (by intros;simp) (by intros;simp) (by intros;simp) (by intros;simp) (by intros;simp),k _ _ W.Az3 (by intros;simp) (by intros;simp) (by intros;simp) (by intros;simp) (by intros;simp),k _ _ T.G3 (by intros;simp) (by intros;simp) (by intros;simp) (by intros;simp) (by intros;simp),k _ _ T.row (by intros;simp) (by intros;simp) (by intros;simp) (by intros;simp) (by intros;simp),
   fun d hd=>⟨k _ _ (T.que d hd) (by intros;simp) (by intros;simp) (by intros;simp) (by intros;simp) (by intros;simp),k _ _ (T.chan d hd) (by intros;simp) (by intros;simp) (by intros;simp) (by intros;simp) (by intros;simp)⟩⟩
 ·refine⟨fun i u=>?_,⟨hb _ _ W.H5,a_⟩,⟨hb _ _ W.Az3,a_⟩,⟨hb _ _ T.G3,a_⟩,⟨hb _ _ T.row,a_⟩,fun d hd=>⟨⟨hb _ _ (T.que d hd),by have:=nm.2.2.2 d hd;omega⟩,⟨hb _ _ (T.chan d hd),by have:=nm.2.2.2 d hd;omega⟩⟩⟩
  rcases u with y|y|y
  ·subst y;exact⟨hb _ _ d.D8,a_⟩
  ·subst y;exact⟨hb _ _ d.marks,a_⟩
  ·exact⟨(E i y).1,by have:=(E i y).2;omega⟩
theorem AZ {ps:Nat->List Int}{a:Nat}:∀n,a<n->(ps a).length<=Oo ps n
 | 0,h=>absurd h (cC _)
 | n+1,h=>by
  rw[Jv];rcases b9.1 h with y|y
  ·have:=AZ (ps:=ps) n y;omega
  ·subst y;omega
theorem vW {ps:Nat->List Int}{a b:Nat}(o:a≠b):∀n,a<n->b<n->(ps a).length+(ps b).length<=Oo ps n
 | 0,h,_=>absurd h (cC _)
 | n+1,u,hb=>by
  rw[Jv];rcases b9.1 u with y|y<;>rcases b9.1 hb with z|z
  ·have:=vW (ps:=ps) o n y z;omega
  ·subst z;have:=AZ (ps:=ps) b y;omega
  ·subst y;have:=AZ (ps:=ps) a z;omega
  ·omega
theorem A' {zs:Nat->Zn}{a:Nat}:∀n,(∀i,i<n->(zs i).st=1->i=a\/i=b)->R9 zs n<=(if a<n then 1 else 0)+(if b<n then 1 else 0)
 | 0,_=>by unfold R9;simp
 | n+1,h=>by
  rw[zA];have ih:=A' n fun i u=>h i a_
  by_cases o:(zs n).st=1
  ·rw[aI o]
   rcases h n (aN _) o with y|y
   ·subst y
    rw[aG (bT _)]at ih;rw[aI (aN _)];have:(if b<n then 1 else 0)<=(if b<n+1 then 1 else 0):=by split<;>split<;>omega
    omega
   ·subst y
    rw[aG (bT n)]at ih;rw[aI (aN n)];have:(if a<n then 1 else 0)<=(if a<n+1 then 1 else 0):=by split<;>split<;>omega
    omega
  ·rw[aG o]
   have t1:(if b<n then 1 else 0)<=(if b<n+1 then 1 else 0):=by split<;>split<;>omega
   have t2:(if a<n then 1 else 0)<=(if a<n+1 then 1 else 0):=by split<;>split<;>omega
   omega
def jf(e:En)(z mt off Ao seq:Int):List EV:=Be (Jh (Es { e with Aw:=mt } z off Ao seq).1)
def EOk(e:En)(Ao seq:Int):Prop:=(Es e 0 0 Ao seq).2=0
theorem EOk.at{seq:Int}(h:EOk e Ao seq){z off:Int}(E:0<=z)(o:z<=65535)(hm:0<=mt)(u:mt<=65535)(J:0<=off)(B:off<=65535):(Es { e with Aw:=mt } z off Ao seq).2=0:=by
 unfold EOk Es at h;by_cases C:jg e=true/\iv ⟨e.kind,0,0,Ao,seq,(Ea e).1⟩=true/\e.first<=seq/\seq-e.count<e.first
 ·obtain⟨c1,c2,c3,c4⟩:=C
  unfold Es;rw[aI];refine⟨?_,?_,c3,c4⟩
  ·unfold jg at c1⊢
   simp only[aV]at c1⊢;exact⟨c1.1,c1.2.1,Fk.2 ⟨hm,u⟩,c1.2.2.2⟩
  ·unfold iv at c2⊢
   simp only[aV]at c2⊢;exact⟨c2.1,Fk.2 ⟨E,o⟩,Fk.2 ⟨J,B⟩,c2.2.2.2⟩
 ·rw[aG C]at h
  exact absurd h c_
theorem EOk.seq{seq:Int}(h:EOk e Ao seq):0<=seq/\seq<=281474976710655/\jg e=true:=by
 unfold EOk Es at h;by_cases o:jg e=true/\iv ⟨e.kind,0,0,Ao,seq,(Ea e).1⟩=true/\e.first<=seq/\seq-e.count<e.first
 ·obtain⟨c1,c2,c3,c4⟩:=o
  unfold iv at c2;simp only[aV]at c2;have:=Fk.1 c2.2.2.2.2;exact⟨this.1,this.2,c1⟩
 ·rw[aG o]at h
  exact absurd h c_
structure Calm(S:Mi):Prop where
 wf:S.Wf
 rt:rtB S.g=true
 ev:S.dr.ev = []
 up:S.dr.dv.down=false
 n:S.dr.dv.n=(S.g.D*S.g.Z).toNat
 size:S.dr.dv.size=S.g.S.toNat
 op:S.dr.dv.op=S.g.O
 bad:∀i,¬S.bad i=1
 nd:∀d,d<S.g.D.toNat->(S.ps d).Nodup
 fr:∀d,d<S.g.D.toNat->∀x∈S.ps d,(S.dr.dv.zs x.toNat).l = []/\(S.dr.dv.zs x.toNat).st=0
 opn:(S.a = -1/\S.b = -1)\/(0<=Bq S.g S.a/\0<=Bq S.g S.b/\¬Bq S.g S.a=Bq S.g S.b/\0<=S.u/\S.u<=S.g.S /\
  (∀d,d<S.g.D.toNat->S.a ∉ S.ps d/\S.b ∉ S.ps d)/\(∀z,z=S.a\/z=S.b->((S.dr.dv.zs z.toNat).l.length:Int)=S.u/\(S.dr.dv.zs z.toNat).st=if S.u=S.g.S then 2 else if S.u=0 then 0 else 1))
 few:∀i,i<S.dr.dv.n->(S.dr.dv.zs i).st=1->(i:Int)=S.a\/(i:Int)=S.b
theorem Calm.sm(c:Calm S):Sm S.g:=Jp c.rt
theorem Mu(c:Calm S){z:Int}(h:0<=Bq S.g z):0<=z/\z.toNat<S.dr.dv.n/\S.dr.dv.has z=true/\z<=511:=by
 have u:=c.sm.d1;have h2:=c.sm.z1;have C:=c.sm.d0;have h4:=c.sm.z0;obtain⟨E,m1⟩:=Rl (a:=S.g.D) (b:=S.g.Z) (A:=8) (B:=64);rcases I8 c.sm z with y|⟨_,_,_,o,J⟩
 ·omega
 ·have L:=c.n
  refine⟨o,a_,?_,a_⟩;unfold Dv.has;exact aO ⟨o,a_⟩
theorem Vu {S:J1}(h:S.ev = [])(i:Int):S.begin i=S:=by
 have hd:S.due=S:=by
  unfold J1.due;rw[h];unfold kC;rw[<-h]
 unfold J1.begin;split
 ·exact hd
 ·rfl
theorem tB {D:Dv}(h:D.down=false){i:Int}(o:D.has i=true):D.Fm i=0:=by
 unfold Dv.Fm;rw[h,o];simp
theorem TL {D:Dv}(h:D.down=false){i:Int}(o:D.has i=true)(hs:(D.zs i.toNat).st<2)(u:¬D.op<=R9 D.zs D.n)(x:List EV):
 D.append i x=(D.tick.set i.toNat ((D.zs i.toNat).app D.size x),(((D.zs i.toNat).l.length:Nat):Int),0):=by
 unfold Dv.append;rw[tB h o,aG (fun y=>y rfl),aG (fun y=>u y.2),aG a_]
theorem XW(ev:S.dr.ev = [])(up:S.dr.dv.down=false){Ai Aw seq:Int}(hf:(Es { e with Aw:=Aw } Ai S.u Ao seq).2=0)(o:S.dr.dv.has Ai=true)(hs:(S.dr.dv.zs Ai.toNat).st<2)(B:¬S.dr.dv.op<=R9 S.dr.dv.zs S.dr.dv.n)
 (C:((S.dr.dv.zs Ai.toNat).l.length:Int)=S.u) :
 S.put e Ai Aw Ao seq=({ S with dr:={ S.dr with dv:=S.dr.dv.tick.set Ai.toNat ((S.dr.dv.zs Ai.toNat).app S.dr.dv.size (jf e Ai Aw S.u Ao seq)) } },0):=by
 unfold Mi.put J1.append;rw[aG (fun y=>y hf),Vu ev];have E:=TL up o hs B (Be (Jh (Es { e with Aw:=Aw } Ai S.u Ao seq).1));simp only[E,C,aB,and_false,ak];rfl
def Mi.Tu(S:Mi)(e:En)(Ao seq:Int):Mi:=
 { S with dr:={ S.dr with dv:=((S.dr.dv.tick.set S.a.toNat ((S.dr.dv.zs S.a.toNat).app S.dr.dv.size (jf e S.a S.b S.u Ao seq))).tick.set S.b.toNat ((S.dr.dv.zs S.b.toNat).app S.dr.dv.size (jf e S.b S.a S.u Ao seq))) },u:=S.u+1 }
def Roomy(S:Mi):Prop:=¬S.a = -1/\S.u<S.g.S
theorem Calm.ne(c:Calm S)(r:Roomy S):0<=Bq S.g S.a/\0<=Bq S.g S.b/\¬Bq S.g S.a=Bq S.g S.b/\0<=S.u/\S.a.toNat≠S.b.toNat /\
 (∀d,d<S.g.D.toNat->S.a ∉ S.ps d/\S.b ∉ S.ps d)/\(∀z,z=S.a\/z=S.b->((S.dr.dv.zs z.toNat).l.length:Int)=S.u/\(S.dr.dv.zs z.toNat).st=if S.u=0 then 0 else 1):=by
 rcases c.opn with y|⟨o,B,C,E,T,J,L⟩
 ·exact absurd y.1 r.1
 ·have U:=Mu c o
  have h2:=Mu c B;refine⟨o,B,C,E,fun y=>C ?_,J,fun z O=>?_⟩
  ·have:S.a=S.b:=a_
   rw[this]
  ·have:=L z O
   have hu:=r.2;rw[aG a_]at this;exact this
theorem Bi6(c:Calm S)(r:Roomy S){seq:Int}(he:EOk e Ao seq):
 S.both e Ao seq=({ S.Tu e Ao seq with u:=S.u },S.b,0):=by
 obtain⟨J,L,n3,n4,O,n6,C⟩:=c.ne r;obtain⟨E,a2,T,a4⟩:=Mu c J;obtain⟨b1,b2,b3,b4⟩:=Mu c L;have hs:=c.sm;have:=hs.s1;have:=hs.o0;have hr:=r.2;have U:=c.op;obtain⟨W,X⟩:=C _ (.inl rfl);obtain⟨lb,sb⟩:=C _ (.inr rfl);have f1:=he.at (z:=S.a) (mt:=S.b) (off:=S.u) E a_ b1 a_ n4 a_;have f2:=he.at (z:=S.b) (mt:=S.a) (off:=S.u) b1 a_ E a_ n4 a_;have o1:¬S.dr.dv.op<=R9 S.dr.dv.zs S.dr.dv.n:=by
  have:=A' (zs:=S.dr.dv.zs) (a:=S.a.toNat) (b:=S.b.toNat) S.dr.dv.n fun i B h=>by
   rcases c.few i B h with y|y<;>omega
  have Y:(if S.a.toNat<S.dr.dv.n then 1 else 0)<=1:=by split<;>omega
  have h2:(if S.b.toNat<S.dr.dv.n then 1 else 0)<=1:=by split<;>omega
  omega
 have p1:=XW c.ev c.up f1 T (by rw[X];split<;>omega) o1 W;unfold Mi.both;rw[p1,aG (fun y=>y rfl)];have o:(Hd S.dr.dv.zs S.a.toNat ((S.dr.dv.zs S.a.toNat).app S.dr.dv.size (jf e S.a S.b S.u Ao seq)) S.b.toNat)=S.dr.dv.zs S.b.toNat:=by
  unfold Hd;rw[aG (cR O)]
 have o2:¬S.dr.dv.op<=R9 (Hd S.dr.dv.zs S.a.toNat ((S.dr.dv.zs S.a.toNat).app S.dr.dv.size (jf e S.a S.b S.u Ao seq))) S.dr.dv.n:=by
  have:=A' (zs:=Hd S.dr.dv.zs S.a.toNat ((S.dr.dv.zs S.a.toNat).app S.dr.dv.size (jf e S.a S.b S.u Ao seq))) (a:=S.a.toNat) (b:=S.b.toNat) S.dr.dv.n fun i B h=>by
   unfold Hd at h;split at h
   next y=>exact .inl y
   ·rcases c.few i B h with y|y<;>omega
  have Y:(if S.a.toNat<S.dr.dv.n then 1 else 0)<=1:=by split<;>omega
  have h2:(if S.b.toNat<S.dr.dv.n then 1 else 0)<=1:=by split<;>omega
  omega
 have p2:=XW (S:={ S with dr:={ S.dr with dv:=S.dr.dv.tick.set S.a.toNat ((S.dr.dv.zs S.a.toNat).app S.dr.dv.size (jf e S.a S.b S.u Ao seq)) } }) (Ai:=S.b) (Aw:=S.a) c.ev c.up f2 b3
  (by show(Hd S.dr.dv.zs S.a.toNat _ S.b.toNat).st<2;rw[o,sb];split<;>omega) o2 (by show((Hd S.dr.dv.zs S.a.toNat _ S.b.toNat).l.length:Int)=S.u;rw[o];exact lb)
 rw[p2];have e1:(({ S with dr:={ S.dr with dv:=S.dr.dv.tick.set S.a.toNat ((S.dr.dv.zs S.a.toNat).app S.dr.dv.size (jf e S.a S.b S.u Ao seq)) } }:Mi).dr.dv.zs S.b.toNat)=S.dr.dv.zs S.b.toNat:=o;rw[e1];rfl
def Mi.Sa(S:Mi):Mi:={ S with dr:={ S.dr with dv:={ S.dr.dv.tick with zs:=fun i=>(S.dr.dv.zs i).flush } } }
theorem tC(ev:S.dr.ev = [])(up:S.dr.dv.down=false):S.dr.flush=(S.Sa.dr,0):=by
 have hd:S.dr.due=S.dr:=by
  unfold J1.due;rw[ev];unfold kC;rw[<-ev]
 unfold J1.flush;rw[hd];unfold Dv.flush;rw[up];rfl
def Mi.mA(S:Mi):Option Mi:=
 open Classical in if Roomy S then some S else match jV S.ps S.g.D.toNat with
  | none=>none
  | some (x,y,f_)=>some { S.Sa with ps:=f_,a:=x,b:=y,u:=0 }
theorem Kg(s:Sm g){x y:Int}(o:0<=Bq g x)(u:0<=Bq g y)(h:x.toNat=y.toNat):x=y:=by
 have:=Jb s o;have:=Jb s u;omega
theorem TI {T:Mi}(c:Calm S)(h:S.mA=some T):Calm T/\Roomy T/\T.g=S.g/\T.bad=S.bad/\T.dr.ev=S.dr.ev/\T.dr.Qp=S.dr.Qp:=by
 unfold Mi.mA at h;split at h
 next r=>
  cases h;exact⟨c,r,rfl,rfl,rfl,rfl⟩
 next W=>
  cases hp:jV S.ps S.g.D.toNat with
  | none=>rw[hp]at h;cases h
  | some t=>
   obtain⟨x,y,f_⟩:=t;rw[hp]at h;cases h;obtain⟨i,j,X,hj,Y,ex,C,L,_,_,dx,dy⟩:=tw c.wf.ps hp;have sub:∀d,d<S.g.D.toNat->∀z,z∈f_ d->z∈S.ps d/\z≠x/\z≠y:=fun d hd z o=>by
    have nd:=c.nd d hd;have key:z∈S.ps d:=by
     by_cases B:d=i
     ·subst B;rw[ex];exact aT _ o
     ·by_cases h2:d=j
      ·subst h2;rw[C];exact aT _ o
      ·rw[<-L d B h2];exact o
    have dz:=(c.wf.ps d hd z key).1;refine⟨key,fun J=>?_,fun J=>?_⟩
    ·subst J
     have:d=i:=a_
     subst this;rw[ex]at nd;exact(cF.1 nd).1 o
    ·subst J
     have:d=j:=a_
     subst this;rw[C]at nd;exact(cF.1 nd).1 o
   have mx:x∈S.ps i:=by rw[ex];exact aW ..
   have my:y∈S.ps j:=by rw[C];exact aW ..
   have O:=c.fr i X x mx;have U:=c.fr j hj y my;have s0:=c.sm.s0;have full:∀z:Int,(z=S.a\/z=S.b)->¬S.a = -1->(S.dr.dv.zs z.toNat).st=2:=fun z o E=>by
    rcases c.opn with y|⟨y1,y2,y3,y4,y5,y6,y7⟩
    ·exact absurd y.1 E
    ·have:=(y7 z o).2
     have hu:S.u=S.g.S:=by
      rcases Decidable.em (S.u<S.g.S)with y|y
      ·exact absurd ⟨E,y⟩ W
      ·omega
     rw[aI hu]at this;exact this
   refine⟨⟨{ toWp:=⟨c.wf.sm,fun d hd z o=>c.wf.ps d hd z (sub d hd z o).1⟩,op:=.inr ⟨⟨by show 0<=Bq S.g x;omega,c.bad _⟩,⟨by show 0<=Bq S.g y;omega,c.bad _⟩⟩ },c.rt,c.ev,c.up,c.n,c.size,c.op,c.bad,fun d hd=>?_,fun d hd z o=>c.fr d hd z (sub d hd z o).1,.inr ⟨by show 0<=Bq S.g x;omega,by show 0<=Bq S.g y;omega,by show ¬Bq S.g x=Bq S.g y;omega,cN _,by show 0<=S.g.S;omega,fun d hd=>⟨fun o=>(sub d hd x o).2.1 rfl,fun o=>(sub d hd y o).2.2 rfl⟩,fun z o=>?_⟩,fun k hk hs=>?_⟩,⟨?_,by show 0<S.g.S;omega⟩,rfl,rfl,rfl,rfl⟩
   ·show(f_ d).Nodup
    have nd:=c.nd d hd;by_cases B:d=i
    ·subst B;rw[ex]at nd;exact(cF.1 nd).2
    ·by_cases h2:d=j
     ·subst h2;rw[C]at nd;exact(cF.1 nd).2
     ·rw[L d B h2];exact nd
   ·show(((S.dr.dv.zs z.toNat).flush.l.length:Nat):Int)=0/\((S.dr.dv.zs z.toNat).flush).st=if(0:Int)=S.g.S then 2 else if(0:Int)=0 then 0 else 1
    rw[aG a_,aI rfl];have o:z=x\/z=y:=o;rcases o with o|o
    ·subst o;exact⟨by show(((S.dr.dv.zs z.toNat).l.length:Nat):Int)=0;rw[O.1];rfl,O.2⟩
    ·subst o;exact⟨by show(((S.dr.dv.zs z.toNat).l.length:Nat):Int)=0;rw[U.1];rfl,U.2⟩
   ·exfalso
    have hs:(S.dr.dv.zs k).st=1:=hs;have ho:=c.few k hk hs;have E:¬S.a = -1:=fun y=>by
     rcases c.opn with z|z
     ·omega
     ·rw[y]at z
      have:=Jb c.sm z.1;omega
    have:=full k ho E;rw[show((k:Nat):Int).toNat=k from rfl]at this;omega
   ·have:=Jb c.sm (z:=x)
    show ¬x = -1;omega
theorem Calm.Tu(c:Calm S)(r:Roomy S)(e:En)(Ao seq:Int):Calm (S.Tu e Ao seq):=by
 obtain⟨J,L,n3,n4,U,O,W⟩:=c.ne r;have X:=c.size;have s0:=c.sm.s0;have hr:=r.2;have Y:((S.Tu e Ao seq).dr.dv.zs S.a.toNat)=(S.dr.dv.zs S.a.toNat).app S.dr.dv.size (jf e S.a S.b S.u Ao seq):=by
  show Hd (Hd S.dr.dv.zs S.a.toNat _) S.b.toNat _ S.a.toNat=_;unfold Hd;rw[aG U,aI rfl]
 have zb:((S.Tu e Ao seq).dr.dv.zs S.b.toNat)=(S.dr.dv.zs S.b.toNat).app S.dr.dv.size (jf e S.b S.a S.u Ao seq):=by
  show Hd (Hd S.dr.dv.zs S.a.toNat _) S.b.toNat _ S.b.toNat=_;unfold Hd;rw[aI rfl]
 have T:∀i,i≠S.a.toNat->i≠S.b.toNat->((S.Tu e Ao seq).dr.dv.zs i)=S.dr.dv.zs i:=fun i C h2=>by
  show Hd (Hd S.dr.dv.zs S.a.toNat _) S.b.toNat _ i=_;unfold Hd;rw[aG h2,aG C]
 have E:∀z x,z=S.a\/z=S.b->(((S.dr.dv.zs z.toNat).app S.dr.dv.size x).l.length:Int)=S.u+1/\((S.dr.dv.zs z.toNat).app S.dr.dv.size x).st=if S.u+1=S.g.S then 2 else if S.u+1=0 then 0 else 1:=fun z x o=>by
  obtain⟨l,s⟩:=W z o;refine⟨by simp only[Zn.app,aF,List.length_singleton];omega,?_⟩;simp only[Zn.app];by_cases h:S.u+1=S.g.S
  ·rw[aI h,aI a_]
  ·rw[aG h,aG a_,aG a_]
 refine⟨{ toWp:=⟨c.wf.sm,c.wf.ps⟩,op:=c.wf.op },c.rt,c.ev,c.up,c.n,c.size,c.op,c.bad,c.nd,fun d hd x B=>?_,.inr ⟨J,L,n3,by show 0<=S.u+1;omega,by show S.u+1<=S.g.S;omega,O,fun z o=>?_⟩,fun i hi hs=>?_⟩
 ·have B:x∈S.ps d:=B
  have dx:=(c.wf.ps d hd x B).1;have C:x≠S.a:=fun y=>(O d hd).1 (y▸B)
  have h2:x≠S.b:=fun y=>(O d hd).2 (y▸B)
  rw[T _ (fun y=>C (Kg c.sm a_ J y)) (fun y=>h2 (Kg c.sm a_ L y))];exact c.fr d hd x B
 ·have o:z=S.a\/z=S.b:=o
  show((((S.Tu e Ao seq).dr.dv.zs z.toNat).l.length:Nat):Int)=S.u+1/\((S.Tu e Ao seq).dr.dv.zs z.toNat).st=if S.u+1=S.g.S then 2 else if S.u+1=0 then 0 else 1
  rcases o with o|o
  ·subst o;rw[Y];exact E _ _ (.inl rfl)
  ·subst o;rw[zb];exact E _ _ (.inr rfl)
 ·show(i:Int)=S.a\/(i:Int)=S.b
  have ga:=Jb c.sm J;have gb:=Jb c.sm L;by_cases C:i=S.a.toNat
  ·exact .inl a_
  ·by_cases h2:i=S.b.toNat
   ·exact .inr a_
   ·rw[T i C h2]at hs
    exact c.few i hi hs
theorem Bdk(c:Calm S):S.ready=match S.mA with|some T=>(T,0)|none=>(S.Sa,40):=by
 have hf:=tC c.ev c.up;unfold Mi.ready Mi.mA;by_cases r:Roomy S
 ·rw[aI r]
  simp only[r,bK];exact aI r
 ·simp only[r,ak]
  rw[aG (show ¬(¬S.a = -1/\S.u<S.g.S)from r),hf];simp only[aB,ak];cases jV S.ps S.g.D.toNat with
  | none=>rfl
  | some t=>rfl
theorem Bdq(c:Calm S){seq:Int}(he:EOk e Ao seq):S.place e Ao seq=match S.mA with
 | some T=>(T.Tu e Ao seq,⟨1,T.a,T.b,T.u,seq,Fq e.bytes⟩,0)
 | none=>(S.Sa,Me.zero,40):=by
 unfold Mi.place;rw[aG (fun y=>y he)];show Mi.Te e Ao seq (999+1) S=_;unfold Mi.Te;rw[Bdk c];cases B:S.mA with
 | none=>rfl
 | some T=>
  obtain⟨o,rT,_⟩:=TI c B;simp only[aB,ak];rw[Bi6 o rT he,aI rfl];have:=o.sm.s1;have hu:=rT.2;have C:=(o.ne rT).2.2.2.1;have:(({ T.Tu e Ao seq with u:=T.u }:Mi).ly)=T.Tu e Ao seq:=by
   unfold Mi.ly;simp only;rw[Ch];rfl
  rw[this];rfl
def Mi.iP(S:Mi)(z:Int):Mi:={ S with ps:=(Wv S.g S.g.D.toNat S.ps z).2 }
theorem Mi.Wf.iP(w:S.Wf){z:Int}(o:0<=Bq S.g z->¬S.bad z.toNat=1):(S.iP z).Wf:={ toWp:=⟨w.sm,XM w.ps _ _ o⟩,op:=w.op }
section
variable(M:Da h m S F)(hb:HB h)
include M
theorem Sw(hb:HB h):Ok (Cn K (.ptr m 0) h) fun v h'=>v=gV S.g/\Ext h h':=by
 obtain⟨_,D,p,bl,ql,np,q,c,G,a⟩:=M.s;exact A1t a.H5 hb
theorem ς:Mp K (.ptr m 0) h=some (.tuple [I S.a,I S.b,I S.u],h):=by
 obtain⟨_,D,p,bl,ql,np,q,c,G,a⟩:=M.s;exact A2r a.H5
include hb
theorem TS(A:Bu disp)(hK:10000<K):∃p,Cs K (.ptr m 0) h=some (.ptr p 0,h)/\∀{d:Nat},8<=d->∀{z:Int},Rng z->(0<=Bq S.g z->¬S.bad z.toNat=1) ->
 Ok (Ag TT disp K d false 28 [.ptr p 0,I z] h) fun v h'=>v=I (Wv S.g S.g.D.toNat S.ps z).1/\Da h' m (S.iP z) F/\Kf F h h'/\HB h':=by
 obtain⟨lt,D,p,bl,ql,np,q,c,G,a⟩:=M.s;refine⟨p,Xn a.H5,fun {d} hd {z} B C=>?_⟩;have o:=a.psz.nd;subst o;refine(WH (K:=K) A a.G3 hb a.psz a_ hd z B).mono ?_;rintro v h' ⟨c3,u,rfl,E,J⟩;obtain⟨L,cH⟩:=a.qb hb E J c3;obtain⟨O,T⟩:=M.made (So.mono (H:=Out F h) ⟨fun i U=>aM U.1 cH.next,D,p,bl,ql,_,q,c,G,L⟩ (fun _=>.inl) (Bm.lt lt cH.next)) cH (M.wf.iP C);exact⟨rfl,O,T,u⟩
end
structure A89(S:Mi):Prop where
 calm:Calm S
 cl:S.a = -1/\S.b = -1
 zs:∀i,S.dr.dv.zs i=Zn.empty
theorem Bhn(u:rtB g=true):A89 (Mi.new g):=by
 have s:=Jp u;refine⟨⟨{ toWp:=⟨s,fun d _ x o=>(by cases o)⟩,op:=.inl ⟨rfl,rfl⟩ },u,rfl,rfl,rfl,rfl,rfl,fun i y=>(by cases y),fun d _=>dR,fun d _ x o=>(by cases o),.inl ⟨rfl,rfl⟩,fun i _ y=>(by cases y)⟩,⟨rfl,rfl⟩,fun _=>rfl⟩
theorem A89.iP(f:A89 S)(z:Int):A89 (S.iP z):=by
 have c:=f.calm;have nd:∀d,d<S.g.D.toNat->((S.iP z).ps d).Nodup:=fun d hd=>by
  show((Wv S.g S.g.D.toNat S.ps z).2 d).Nodup;unfold Wv;split
  ·exact c.nd d hd
  ·split
   ·exact c.nd d hd
   next h0 o=>
    split
    ·simp only[upd]
     split
     next e=>
      rw[List.nodup_append];refine⟨by rw[<-e];exact c.nd d hd,by simp,fun a u b hb y=>?_⟩;rw[aP.1 hb]at y;subst y;exact o (Jm.2 ⟨d,hd,by rw[e];exact u⟩)
     ·exact c.nd d hd
    ·exact c.nd d hd
 refine⟨⟨c.wf.iP fun _=>c.bad _,c.rt,c.ev,c.up,c.n,c.size,c.op,c.bad,nd,fun d hd x B=>?_,.inl f.cl,c.few⟩,f.cl,f.zs⟩;show(S.dr.dv.zs x.toNat).l = []/\(S.dr.dv.zs x.toNat).st=0;rw[f.zs];exact⟨rfl,rfl⟩
theorem Bh2(w:e.Wf){Ai off seq:Int}(hf:(Es { e with Aw:=mt } Ai off Ao seq).2=0){x:Me}(B:x.off=off):
 mB (Jh (Es { e with Aw:=mt } Ai off Ao seq).1) x Ai mt=if ¬e.kind=2/\seq=x.seq/\((Fq e.bytes:Nat):Int)=x.sum then(true,e.bytes)else(false,Dt):=by
 have w':({ e with Aw:=mt }:En).Wf:=⟨w.len,w.u8⟩;obtain⟨C,h2,E,h4⟩:=v8 w' hf;have o:=tE w' Ai off Ao seq;rw[C]at o⊢;have u:=v9 o h2;subst B;unfold mB;simp only at u;rw[u];simp only[h4,hJ]
theorem v7(ev:S.dr.ev = [])(up:S.dr.dv.down=false)(w:e.Wf){Ai off seq:Int}(hf:(Es { e with Aw:=mt } Ai off Ao seq).2=0){x:Me}(u:x.off=off)
 (B:S.dr.dv.has Ai=true) (hs:¬(S.dr.dv.zs Ai.toNat).st=4) (h0:0<=off) (o:(S.dr.dv.zs Ai.toNat).l[off.toNat]? = some (jf e Ai mt off Ao seq)) :
 S.Dc x Ai mt=({ S with dr:={ S.dr with dv:=S.dr.dv.tick } },(if ¬e.kind=2/\seq=x.seq/\((Fq e.bytes:Nat):Int)=x.sum then(true,e.bytes)else(false,Dt)).2,(if ¬e.kind=2/\seq=x.seq/\((Fq e.bytes:Nat):Int)=x.sum then(true,e.bytes)else(false,Dt)).1,0):=by
 have hlen:off.toNat<(S.dr.dv.zs Ai.toNat).l.length:=by
  rcases dQ off.toNat (S.dr.dv.zs Ai.toNat).l.length with y|y
  ·exact y
  ·rw[cD y]at o;cases o
 have C:S.dr.read Ai off=({ S.dr with dv:=S.dr.dv.tick },jf e Ai mt off Ao seq,0):=by
  unfold J1.read;rw[Vu ev];unfold Dv.begin Dv.read;rw[tB up B,aI rfl,aG (fun y=>y rfl)];unfold jL;rw[aG hs,aI a_,o];rfl
 unfold Mi.Dc;rw[u,C];simp only[bK];have hg:=Bh2 w hf u;rw[show kq (jf e Ai mt off Ao seq)=Jh (Es { e with Aw:=mt } Ai off Ao seq).1 from tF _,hg]
theorem TV(o:rtB g=true){z off:Int}(B:0<=Bq g z)(h0:0<=off)(C:off<g.S):Sr g z off=true:=by
 unfold Sr;rcases I8 (Jp o) z with y|⟨_,_,_,u,E⟩
 ·omega
 ·rw[o,Fk.2 ⟨u,a_⟩,Fk.2 ⟨h0,a_⟩];rfl
end
end Go.Ev
