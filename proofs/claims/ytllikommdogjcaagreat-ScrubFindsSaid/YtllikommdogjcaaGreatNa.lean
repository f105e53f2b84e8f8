import Derived.Test.YtllikommdogjcaaGreatCa
set_option linter.all false
namespace Go.Ev
open Go.Proofs
set_option maxRecDepth 100000
variable {ps f_:Nat->List Int}{K b d i j k n q:Nat}{g:Gm}{p:Nat->Bool}{f Bt cur:Nat->Int}{S T:Mi}{ep:Int}{hf hg:Prop}{D E F G:Nat->Prop}{X Y Z:Co}{mt mt':Int->Int}{e:En}{v:EV}{h:Ab}{bl:List Nat}{B:Cb}{disp:Nat->Option FT}
theorem zp(ps:Nat->List Int)(Pu:Int)(n:Nat):(Ek ps Pu n = -1->∀d,d<n->(d:Int)=Pu)/\(0<=Ek ps Pu n->Ek ps Pu n<n/\¬Ek ps Pu n=Pu/\∀d,d<n->¬(d:Int)=Pu->(ps d).length<=(ps (Ek ps Pu n).toNat).length):=by
 rcases vV ps Pu n with⟨a,b⟩|⟨H,o,u,C⟩
 ·exact⟨fun _=>b,fun y=>a_⟩
 ·exact⟨fun y=>a_,fun _=>⟨o,u,fun d hd hb=>(C d hd).resolve_left hb⟩⟩
theorem pQ(a:0<n)(k:Int):k<=F2 ps n↔2*k<=Oo ps n/\∀d,d<n->k+(ps d).length<=Oo ps n:=by
 obtain⟨i1,i2⟩:=zp ps (-1) n;obtain⟨b1,b2,b3⟩:=zr ps (-1) n;have hf:0<=Ek ps (-1) n:=by
  rcases b3 with y|y
  ·have:=i1 y 0 a;omega
  ·exact y
 obtain⟨o,H,u⟩:=i2 hf;have C:k_ ps n (Ek ps (-1) n)=(ps (Ek ps (-1) n).toNat).length:=by
  unfold k_;rw[aI ⟨hf,o⟩]
 unfold F2;rw[C];constructor
 ·intro h
  refine⟨a_,fun d hd=>?_⟩;have:=u d hd a_;omega
 ·rintro⟨J,h2⟩
  have:=h2 (Ek ps (-1) n).toNat a_;omega
theorem tv {ps:Nat->List Int}{d:Nat}{l:List Int}:∀n,(Oo (upd ps d l) n:Int)=Oo ps n+(if d<n then(l.length:Int)-(ps d).length else 0)
 | 0=>by unfold Oo;simp
 | n+1=>by
  rw[Jv,Jv];have ih:=tv (ps:=ps) (d:=d) (l:=l) n;by_cases h:n=d
  ·subst h
   rw[aG (bT _)]at ih;rw[aI (aN _),show upd ps n l n=l from aI rfl];omega
  ·rw[show upd ps d l n=ps n from aG h]
   by_cases h2:d<n
   ·rw[aI h2]at ih;rw[aI a_];omega
   ·rw[aG h2]at ih;rw[aG a_];omega
theorem TD {ps:Nat->List Int}{a b c:Nat}(o:a≠b)(u:a≠c)(C:b≠c):∀n,a<n->b<n->c<n->(ps a).length+(ps b).length+(ps c).length<=Oo ps n
 | 0,h,_,_=>absurd h (cC _)
 | n+1,O,hb,P=>by
  rw[Jv];by_cases H:a=n
  ·subst H;have:=vW (ps:=ps) C a a_ a_;omega
  ·by_cases h2:b=n
   ·subst h2;have:=vW (ps:=ps) u b a_ a_;omega
   ·by_cases J:c=n
    ·subst J;have:=vW (ps:=ps) o c a_ a_;omega
    ·have:=TD (ps:=ps) o u C n a_ a_ a_;omega
theorem zt:∀n,(∀d,d<n->(ps d).length<=(f_ d).length)->Oo ps n<=Oo f_ n
 | 0,_=>aE _
 | n+1,h=>by
  rw[Jv,Jv];have:=zt n fun d hd=>h d a_
  have:=h n (aN _);omega
theorem zu:∀n,d<n->(∀e,e<n->(ps e).length<=(f_ e).length)->Oo ps n+(f_ d).length<=Oo f_ n+(ps d).length
 | 0,h,_=>absurd h (cC _)
 | n+1,hd,h=>by
  rw[Jv,Jv];rcases b9.1 hd with y|y
  ·have:=zu n y fun e he=>h e a_
   have:=h n (aN _);omega
  ·subst y
   have:=zt (ps:=ps) (f_:=f_) d fun e he=>h e a_
   omega
theorem Bb3{x y:Int}{P:Int->Prop}(s:Sm g)(w:∀d,d<g.D.toNat->∀x∈ps d,Bq g x=d/\P x)(h:jV ps g.D.toNat=some (x,y,f_)):F2 ps g.D.toNat-1<=F2 f_ g.D.toNat:=by
 obtain⟨a,b,H,hb,u,O,Q,J,U,fb,_,_⟩:=tw w h;have:=s.d0;obtain⟨_,V⟩:=zp ps (-1) g.D.toNat;obtain⟨_,ib⟩:=zp ps a g.D.toNat;have C:=(V a_).2.2;have mb:=(ib a_).2.2;rw[U]at C;rw[fb]at mb;simp only[bD]at C mb;have la:(ps a).length=(f_ a).length+1:=by rw[O];rfl
 have lb:(ps b).length=(f_ b).length+1:=by rw[Q];rfl
 have e:∀d,(f_ d).length=(upd (upd ps a (f_ a)) b (f_ b) d).length:=fun d=>by
  unfold upd;by_cases o:d=b
  ·rw[aI o,o]
  ·rw[aG o]
   by_cases h2:d=a
   ·rw[aI h2,h2]
   ·rw[aG h2,J d h2 o]
 have es:Oo f_ g.D.toNat=Oo (upd (upd ps a (f_ a)) b (f_ b)) g.D.toNat:=by
  unfold Oo;congr 1;apply cY;intro d _;exact e d
 have s1:=tv (ps:=upd ps a (f_ a)) (d:=b) (l:=f_ b) g.D.toNat;have s2:=tv (ps:=ps) (d:=a) (l:=f_ a) g.D.toNat;rw[show upd ps a (f_ a) b=ps b from aG (cR u),aI hb]at s1;rw[aI H]at s2;obtain⟨p1,p2⟩:=(pQ (ps:=ps) (n:=g.D.toNat) a_ _).1 (cN (F2 ps g.D.toNat));refine(pQ a_ _).2 ⟨a_,fun d hd=>?_⟩;have pd:=p2 d hd;by_cases o:d=a
 ·subst o;omega
 ·by_cases h2:d=b
  ·subst h2;omega
  ·rw[J d o h2]
   have m1:=C d hd a_;have m2:=mb d hd a_;have s3:(ps a).length+(ps b).length+(ps d).length<=Oo ps g.D.toNat:=TD u (cR o) (cR h2) _ H hb hd;omega
theorem Bd3(a:0<n)(h:∀d,d<n->(ps d).length<=(f_ d).length):F2 ps n<=F2 f_ n:=by
 obtain⟨p1,o⟩:=(pQ (ps:=ps) a _).1 (cN (F2 ps n));refine(pQ a _).2 ⟨?_,fun d hd=>?_⟩
 ·have:=zt n h;omega
 ·have:=zu n hd h;have:=o d hd;omega
def cn(p:Nat->Bool):Nat->Nat
 | 0=>0
 | n+1=>cn p n+(if p n=true then 1 else 0)
theorem vX {q:Nat->Bool}:∀n,(∀z,z<n->p z=true->q z=true)->cn p n<=cn q n
 | 0,_=>aE _
 | n+1,h=>by
  have o:=vX n fun z u=>h z a_
  have:=h n (aN _);unfold cn;split<;>split
  all_goals first|omega|(rename_i a b;exact absurd (this a) b)
theorem nt {p q:Nat->Bool}:∀n,cn (fun z=>p z||q z) n<=cn p n+cn q n
 | 0=>aE _
 | n+1=>by
  have ih:=nt (p:=p) (q:=q) n;unfold cn;cases p n<;>cases q n<;>simp<;>omega
theorem zx:∀n,(∀z,z<n->p z=true)->cn p n=n
 | 0,_=>rfl
 | n+1,h=>by
  unfold cn;rw[zx n fun z a=>h z a_,aI (h n (aN _))]
theorem TE(a:Int):∀n:Nat,cn (fun z=>decide ((z:Int)=a)) n<=if a<n then 1 else 0
 | 0=>by unfold cn;omega
 | n+1=>by
  have o:=TE a n;unfold cn;by_cases h:(n:Int)=a
  ·rw[aI (aO h),aI a_]
   rw[aG a_]at o;omega
  ·rw[aG (by simpa using h)]
   split at o<;>split<;>omega
theorem lh(n:Nat):∀l:List Int,cn (fun z=>decide ((z:Int)∈l)) n<=l.length
 | []=>by
  have:cn (fun z=>decide ((z:Int)∈([]:List Int))) n<=cn (fun _=>false) n:=vX n fun z _ h=>by simp at h
  have z:∀n,cn (fun _=>false) n=0:=fun n=>by induction n with
   | zero=>rfl
   | succ n o=>unfold cn;rw[o];rfl
  rw[z]at this;exact this
 | a::l=>by
  have o:=lh n l;have C:cn (fun z=>decide ((z:Int)∈a::l)) n<=cn (fun z=>decide ((z:Int)=a)||decide ((z:Int)∈l)) n:=vX n fun z _ h=>by
   simp only[aS,bX]at h;simp only[dY,aS];exact h
  have h2:=nt (p:=fun z=>decide ((z:Int)=a)) (q:=fun z=>decide ((z:Int)∈l)) n;have u:=TE a n;rw[bJ];split at u<;>omega
def sw(f:Nat->Int):Nat->Int
 | 0=>0
 | n+1=>sw f n+f n
theorem TF {k:Nat->Int}:∀n,sw (fun z=>f z+k z) n=sw f n+sw k n
 | 0=>rfl
 | n+1=>by unfold sw;rw[TF n];omega
theorem Btk(x:Me)(n:Nat):sw (fun z=>Wi (z:Int) x) n<=2:=by
 have key:∀n,sw (fun z=>Wi (z:Int) x) n<=(cn (fun z=>decide ((z:Int)∈[x.Ai,x.Aw])) n:Nat):=fun n=>by
  induction n with
  | zero=>exact cN _
  | succ n o=>
   unfold sw cn Wi;split
   next h=>
    rw[aI (by simp only[aS,bX,List.not_mem_nil,or_false];rcases h.2 with y|y;exact .inl y.symm;exact .inr y.symm)];unfold Wi at o;omega
   ·unfold Wi at o;split<;>omega
 have a:=key n;have b:=lh n [x.Ai,x.Aw];have:([x.Ai,x.Aw]:List Int).length=2:=rfl;omega
theorem TG:∀(es:List Me) (n:Nat),sw (fun z=>Ka es (z:Int)) n<=2*es.length
 | [],n=>by
  have:∀n,sw (fun z=>Ka [] (z:Int)) n=0:=fun n=>by
   induction n with
   | zero=>rfl
   | succ n a=>unfold sw;rw[a];rfl
  rw[this];simp
 | x::es,n=>by
  have a:=TG es n;have e:(fun z:Nat=>Ka (x::es) (z:Int))=fun(z:Nat)=>Wi (z:Int) x+Ka es (z:Int):=by funext z;rfl
  rw[e,TF,bJ];have:=Btk x n;omega
theorem TH{k:Int}(h0:∀z,0<=f z):∀n,(∀z,z<n->p z=true->k<=2*f z)->k*(cn p n:Nat)<=2*sw f n
 | 0,_=>by unfold cn sw;simp
 | n+1,h=>by
  have a:=TH h0 n fun z o=>h z a_
  have:=h n (aN _);have:=h0 n;unfold cn sw;split
  next hp=>
   have:=h n (aN _) hp;rw[Int.natCast_add,Int.mul_add];simp;omega
  ·simp;omega
theorem zy(ps:Nat->List Int):∀n,((List.range n).flatMap ps).length=Oo ps n
 | 0=>rfl
 | n+1=>by rw[cr,List.flatMap_append,aF,zy ps n,Jv];simp
theorem Bih(ps:Nat->List Int)(d:Nat):∀n,((List.range n).flatMap fun e=>if e=d then[]else ps e).length=Oo (upd ps d []) n:=fun n=>zy (upd ps d []) n
theorem A8t(Q:rtB g=true){closed:Int->Bool}{es:List Me}{ar op:List Int}(la:ar.length<=6)(lo:op.length<=2)(da:∀d:Nat,d<g.D.toNat->(ar.filter fun z=>decide (¬Bq g z=d)).length<=2*(g.D-1).toNat)
 (cover:∀z:Int,0<=Bq g z->closed z=true\/z∈ps (Bq g z).toNat\/z∈ar\/z∈op) (full:∀z,closed z=true->g.S<2*Ka es z) (ln:es.length=g.B.toNat) (few:F2 ps g.D.toNat<g.E7):False:=by
 have s:=Jp Q;have:=s.d0;have:=s.d1;have:=s.z0;have:=s.z1;have:=s.s0;have:=s.b0;have:=s.p0;have sg:2*g.B<=g.S*g.segments:=by
  unfold rtB at Q;simp only[aV,aS]at Q;exact Q.2.2
 obtain⟨N,hN⟩:=av (dX (show 0<=g.D from a_) (show 0<=g.Z from a_));have O:∀z:Nat,z<N->0<=Bq g z/\Bq g z<g.D:=fun z H=>by
  rcases I8 s z with y|⟨a,b,_⟩
  ·unfold Bq at y
   rw[aG a_]at y;have:0<=(z:Int)/g.Z:=Int.ediv_nonneg a_ a_;omega
  ·exact⟨a,b⟩
 have small:∀p:Nat->Bool,(∀z,z<N->p z=true->closed (z:Int)=true)->2*g.segments<=(cn p N:Nat)->False:=fun p hp hk=>by
  have h1:=TH (p:=p) (f:=fun z=>Ka es (z:Int)) (k:=g.S+1) (fun z=>(pW _ es).1) N fun z H y=>by have:=full z (hp z H y);omega
  have h2:=TG es N;rw[ln]at h2;have h3:(g.S+1)*(2*g.segments)<=(g.S+1)*(cn p N:Nat):=bU hk a_;have h4:(g.S+1)*(2*g.segments)=2*(g.S*g.segments)+2*g.segments:=by rw[Int.add_mul,Int.mul_left_comm];omega
  have h5:0<g.segments:=by
   rcases gh 0 g.segments with y|y
   ·exact y
   ·have:=dX (show 0<=g.S from a_) (show 0<=-g.segments from a_)
    rw[Int.mul_neg]at this;omega
  omega
 have hs:2*g.segments<=g.least-2-2*(g.D*g.P):=by unfold Gm.segments;omega
 have ae:0<=g.D*g.P:=dX a_ a_;have hP:g.P<=g.D*g.P:=by have:=fL (show 1<=g.D from a_) (show 0<=g.P from a_);omega
 have e1:g.D*(g.Z-g.P-2)=g.D*g.Z-g.D*g.P-2*g.D:=by rw[Int.mul_sub,Int.mul_sub];omega
 have e2:(g.D-1)*(g.Z-g.P-2)=g.D*g.Z-g.D*g.P-2*g.D-(g.Z-g.P-2):=by rw[Int.sub_mul,e1];omega
 have n0:¬(g.E7<=F2 ps g.D.toNat):=a_
 rw[pQ a_]at n0;by_cases c1:2*g.E7<=Oo ps g.D.toNat
 ·
  obtain⟨d,hd,hc⟩:∃d,d<g.D.toNat/\(Oo ps g.D.toNat:Int)<g.E7+(ps d).length:=by
   rcases eO (∃d,d<g.D.toNat/\(Oo ps g.D.toNat:Int)<g.E7+(ps d).length)with y|y
   ·exact y
   ·refine absurd ⟨c1,fun d hd=>?_⟩ n0
    rcases gh (Oo ps g.D.toNat:Int) (g.E7+(ps d).length)with z|z
    ·exact absurd ⟨d,hd,z⟩ y
    ·exact z
  let p:Nat->Bool:=fun z=>closed (z:Int)&&decide (¬Bq g z=d)
  let J:List Int:=(List.range g.Z.toNat).map fun(k:Nat)=>(d:Int)*g.Z+k
  let o:=(List.range g.D.toNat).flatMap fun e=>if e=d then[]else ps e
  let u:=ar.filter fun z=>decide (¬Bq g z=d)
  have all:cn (fun z=>p z||(decide ((z:Int)∈J)||(decide ((z:Int)∈o)||(decide ((z:Int)∈u)||decide ((z:Int)∈op))))) N=N:=zx N fun z H=>by
   obtain⟨d0,d1⟩:=O z H;simp only[dY,aS];by_cases C:Bq g z=d
   ·refine .inr (.inl (dK.2 ⟨((z:Int)%g.Z).toNat,cm.2 ?_,?_⟩))
    ·have:=gO (z:Int) (show 0<g.Z from a_)
     have:=fV (z:Int) (show g.Z≠0 from a_);omega
    ·rcases I8 s z with y|⟨_,_,y,_⟩
     ·omega
     ·have:=fV (z:Int) (show g.Z≠0 from a_)
      have:=Int.mul_ediv_add_emod (z:Int) g.Z;rw[<-C,y,Int.mul_comm];omega
   ·rcases cover z d0 with y|y|y|y
    ·exact .inl (by show(closed (z:Int)&&decide (¬Bq g z=d))=true;rw[y,aO C];rfl)
    ·refine .inr (.inr (.inl (List.mem_flatMap.2 ⟨(Bq g z).toNat,cm.2 a_,?_⟩)))
     rw[aG a_];exact y
    ·exact .inr (.inr (.inr (.inl (fK.2 ⟨y,aO C⟩))))
    ·exact .inr (.inr (.inr (.inr y)))
  have o1:=nt (p:=p) (q:=fun z=>decide ((z:Int)∈J)||(decide ((z:Int)∈o)||(decide ((z:Int)∈u)||decide ((z:Int)∈op)))) N;have o2:=nt (p:=fun z:Nat=>decide ((z:Int)∈J)) (q:=fun z=>decide ((z:Int)∈o)||(decide ((z:Int)∈u)||decide ((z:Int)∈op))) N;have o3:=nt (p:=fun z:Nat=>decide ((z:Int)∈o)) (q:=fun z=>decide ((z:Int)∈u)||decide ((z:Int)∈op)) N;have o4:=nt (p:=fun z:Nat=>decide ((z:Int)∈u)) (q:=fun z=>decide ((z:Int)∈op)) N;have m0:=lh N J;have m1:=lh N o;have m2:=lh N u;have m3:=lh N op;have l0:J.length=g.Z.toNat:=by simp[J]
  have l1:o.length=Oo (upd ps d []) g.D.toNat:=Bih ps d _;have l2:u.length<=2*(g.D-1).toNat:=da d hd;have V:=tv (ps:=ps) (d:=d) (l:=[]) g.D.toNat;rw[aI hd]at V;simp only[fS]at V;refine small p (fun z _ y=>(aV _ _▸y).1) ?_;have U:g.least<=(g.D-1)*(g.Z-g.P-2)-g.E7+1:=by unfold Gm.least;omega
  omega
 ·
  let p:Nat->Bool:=fun z=>closed (z:Int)
  let o:=(List.range g.D.toNat).flatMap ps
  have all:cn (fun z=>p z||(decide ((z:Int)∈o)||(decide ((z:Int)∈ar)||decide ((z:Int)∈op)))) N=N:=zx N fun z H=>by
   obtain⟨d0,d1⟩:=O z H;simp only[dY,aS];rcases cover z d0 with y|y|y|y
   ·exact .inl y
   ·exact .inr (.inl (List.mem_flatMap.2 ⟨(Bq g z).toNat,cm.2 a_,y⟩))
   ·exact .inr (.inr (.inl y))
   ·exact .inr (.inr (.inr y))
  have o1:=nt (p:=p) (q:=fun z=>decide ((z:Int)∈o)||(decide ((z:Int)∈ar)||decide ((z:Int)∈op))) N;have o2:=nt (p:=fun z:Nat=>decide ((z:Int)∈o)) (q:=fun z=>decide ((z:Int)∈ar)||decide ((z:Int)∈op)) N;have o3:=nt (p:=fun z:Nat=>decide ((z:Int)∈ar)) (q:=fun z=>decide ((z:Int)∈op)) N;have m1:=lh N o;have m2:=lh N ar;have m3:=lh N op;have l1:o.length=Oo ps g.D.toNat:=zy ps _;refine small p (fun z _ y=>y) ?_;have U:g.least<=g.D*(g.Z-g.P-2)-2*g.E7+1:=by unfold Gm.least;omega
  omega
def arB(X:Co)(z:Int):Prop:=∃i,i<3/\(z=X.cur i\/z=X.Bt i)
def Aqk(S:Mi)(ep:Int)(x:Me)(e:En)(z mt:Int):Prop:=(S.dr.dv.zs z.toNat).l[x.off.toNat]? = some (jf e z mt x.off ep x.seq)
def A0p(S:Mi)(x:Me)(z:Int):Prop:=∃s,(S.dr.dv.zs z.toNat).l[x.off.toNat]? = some s/\¬(iD (kq s) z x.off).2=0
structure Azp(hf:Prop)(S:Mi)(ep:Int)(x:Me)(bs:List Nat):Prop where
 ex:∃e:En,e.Wf/\e.bytes=bs/\¬e.kind=2/\EOk e ep x.seq/\x.sum=(Fq bs:Nat)/\(Aqk S ep x e x.Ai x.Aw\/hf/\A0p S x x.Ai/\Aqk S ep x e x.Aw x.Ai)/\(Aqk S ep x e x.Aw x.Ai\/hf/\A0p S x x.Aw/\Aqk S ep x e x.Ai x.Aw)
theorem Azp.F1{x:Me}{bs:List Nat}(r:Azp hf S ep x bs)(w:hf->hg)(o:∀v,(S.dr.dv.zs x.Ai.toNat).l[x.off.toNat]? = some v->(T.dr.dv.zs x.Ai.toNat).l[x.off.toNat]? = some v)(u:∀v,(S.dr.dv.zs x.Aw.toNat).l[x.off.toNat]? = some v->(T.dr.dv.zs x.Aw.toNat).l[x.off.toNat]? = some v):Azp hg T ep x bs:=by
 obtain⟨e,C,H,J,O,P,Q,U⟩:=r.ex;exact⟨e,C,H,J,O,P,Q.imp (o _) fun⟨a,⟨s,b,c⟩,d⟩=>⟨w a,⟨s,o _ b,c⟩,u _ d⟩,U.imp (u _) fun⟨a,⟨s,b,c⟩,d⟩=>⟨w a,⟨s,u _ b,c⟩,o _ d⟩⟩
structure Fu(hf:Prop)(X:Co)(mt:Int->Int)(x:Me)(bs:List Nat):Prop where
 st:x.state=1
 ok:meB X.S.g x=true
 rc:Azp hf X.S X.ep x bs
 m1:mt x.Ai=x.Aw
 m2:mt x.Aw=x.Ai
 wh:(x.Ai=X.S.a/\x.Aw=X.S.b)\/(X.closed x.Ai=true/\X.closed x.Aw=true)
noncomputable def nu(g:Gm)(es:List Me)(x y w z:Int):List (List EV):=(Gl g es x y w z g.parts.toNat).map fun f=>Be (Jh f)
def Bd7(S:Mi)(G z:Int):Prop:=∃es w,iO G 1 w es=true/\(∀x∈es,meR S.g x=true)/\es.length=S.g.B.toNat/\(S.dr.dv.zs z.toNat).l=nu S.g es G 1 w z
theorem Bd7.same{G z:Int}(h:Bd7 S G z)(g:T.g=S.g)(e:(T.dr.dv.zs z.toNat).l=(S.dr.dv.zs z.toNat).l):Bd7 T G z:=by
 obtain⟨es,w,a,b,c,d⟩:=h;exact⟨es,w,a,by rw[g];exact b,by rw[g];exact c,by rw[e,g];exact d⟩
structure Cc(E:Nat->Prop)(X:Co)(L:List (List Nat))(mt:Int->Int):Prop where
 c:Calm X.S
 un:X.st=false
 ar:∀i,i<3->Bq X.S.g (X.cur i)=i/\Bq X.S.g (X.Bt i)=i/\¬X.cur i=X.Bt i
 arz:∀z,arB X z->¬z=X.S.a/\¬z=X.S.b/\(∀d,d<X.S.g.D.toNat->z ∉ X.S.ps d)/\¬(X.S.dr.dv.zs z.toNat).st=1
 s2:∀i,i<X.S.dr.dv.n->(X.S.dr.dv.zs i).st<=2/\((X.S.dr.dv.zs i).st=0->(X.S.dr.dv.zs i).l = [])
 opm:¬X.S.a = -1->mt X.S.a=X.S.b/\mt X.S.b=X.S.a
 len:L.length=X.es.length
 lb:X.es.length=X.S.g.B.toNat
 Av4:∀(b:Nat) x bs,X.es[b]? = some x->L[b]? = some bs->(x=Me.nil 0/\bs = [])\/Fu (E b) X mt x bs
 sq:∀x∈X.es,x.seq<X.nx
 nm:0<=X.gen/\X.ep=1/\1<=X.nx
 hd:X.gen=0\/∀i,i<3->Bd7 X.S X.gen (X.cur i)
theorem Fu.tx{x:Me}{bs:List Nat}(l:Fu hf X mt x bs)(i:hf->hg):Fu hg X mt x bs:=⟨l.st,l.ok,l.rc.F1 i (fun _ h=>h) fun _ h=>h,l.m1,l.m2,l.wh⟩
theorem Cc.mono{L:List (List Nat)}(C:Cc E X L mt)(h:∀(b:Nat) x bs,E b->X.es[b]? = some x->L[b]? = some bs->Fu True X mt x bs->¬G b->Fu False X mt x bs):Cc G X L mt:=by
 refine⟨C.c,C.un,C.ar,C.arz,C.s2,C.opm,C.len,C.lb,fun b x bs a o=>?_,C.sq,C.nm,C.hd⟩;rcases C.Av4 b x bs a o with w|w
 ·exact .inl w
 ·right
  rcases eO (E b)with e|e
  ·rcases eO (G b)with g|g
   ·exact w.tx fun _=>g
   ·exact(h b x bs e a o (w.tx fun _=>trivial) g).tx False.elim
  ·exact w.tx fun y=>absurd y e
structure Dq(S T:Mi)(W:Nat->Prop):Prop where
 g:T.g=S.g
 bad:T.bad=S.bad
 ps:T.ps=S.ps
 o:T.a=S.a/\T.b=S.b/\T.u=S.u
 ev:T.dr.ev = []
 up:T.dr.dv.down=false
 hp:T.dr.Qp=S.dr.Qp
 n:T.dr.dv.n=S.dr.dv.n
 size:T.dr.dv.size=S.dr.dv.size
 op:T.dr.dv.op=S.dr.dv.op
 same:∀i,¬W i->(T.dr.dv.zs i).l=(S.dr.dv.zs i).l/\(T.dr.dv.zs i).st=(S.dr.dv.zs i).st
 Ats:∀i,W i->i<S.dr.dv.n->(T.dr.dv.zs i).st=0/\(T.dr.dv.zs i).l = []\/(T.dr.dv.zs i).st=2
theorem Dq.trans {U:Mi}{W V:Nat->Prop}(a:Dq S T W)(b:Dq T U V):Dq S U fun i=>W i\/V i:=by
 refine⟨b.g.trans a.g,b.bad.trans a.bad,b.ps.trans a.ps,⟨b.o.1.trans a.o.1,b.o.2.1.trans a.o.2.1,b.o.2.2.trans a.o.2.2⟩,b.ev,b.up,b.hp.trans a.hp,b.n.trans a.n,b.size.trans a.size,b.op.trans a.op,fun i u=>?_,fun i u C=>?_⟩
 ·have x:=a.same i fun y=>u (.inl y)
  have y:=b.same i fun y=>u (.inr y)
  exact⟨y.1.trans x.1,y.2.trans x.2⟩
 ·rcases eO (V i)with v|v
  ·exact b.Ats i v (by rw[a.n];exact C)
  ·rw[(b.same i v).2,(b.same i v).1]
   exact a.Ats i (u.resolve_right v) C
theorem Dq.Sa(c:Calm S):Dq S S.Sa fun _=>False:=⟨rfl,rfl,rfl,⟨rfl,rfl,rfl⟩,c.ev,c.up,rfl,rfl,rfl,rfl,fun _ _=>⟨rfl,rfl⟩,fun _ y=>y.elim⟩
theorem Dq.mk'{W:Nat->Prop}(q:Dq S T W)(c:Calm S):Mk S T:=⟨q.g,⟨q.n,q.size,q.op,by rw[q.ev,c.ev,q.hp]⟩⟩
def Idle(S:Mi)(W:Nat->Prop):Prop:=∀z:Int,0<=Bq S.g z->W z.toNat->¬z=S.a/\¬z=S.b/\∀d,d<S.g.D.toNat->z ∉ S.ps d
theorem Calm.dq{W:Nat->Prop}(c:Calm S)(q:Dq S T W)(id:Idle S W):Calm T:=by
 have s:=c.sm;have a:=q.g;refine⟨{ toWp:=⟨by rw[a];exact c.wf.sm,by rw[a,q.ps,q.bad];exact c.wf.ps⟩,op:=by rw[a,q.bad,q.o.1,q.o.2.1];exact c.wf.op },by rw[a];exact c.rt,q.ev,q.up,by rw[q.n,a];exact c.n,by rw[q.size,a];exact c.size,by rw[q.op,a];exact c.op,by rw[q.bad];exact c.bad,by rw[a,q.ps];exact c.nd,?_,?_,?_⟩
 ·rw[a,q.ps]
  intro d hd x u;have dx:=(c.wf.ps d hd x u).1;have w:¬W x.toNat:=fun y=>(id x a_ y).2.2 d hd u
  rw[(q.same _ w).1,(q.same _ w).2];exact c.fr d hd x u
 ·rw[a,q.ps,q.o.1,q.o.2.1,q.o.2.2]
  rcases c.opn with y|⟨C,H,P,Q,U,V,y7⟩
  ·exact .inl y
  ·refine .inr ⟨C,H,P,Q,U,V,fun z J=>?_⟩
   have w:¬W z.toNat:=fun y=>by
    rcases J with rfl|rfl
    ·exact(id _ C y).1 rfl
    ·exact(id _ H y).2.1 rfl
   rw[(q.same _ w).1,(q.same _ w).2];exact y7 z J
 ·rw[q.n,q.o.1,q.o.2.1]
  intro i O hs;rcases eO (W i)with w|w
  ·have:=q.Ats i w O
   omega
  ·rw[(q.same i w).2]at hs
   exact c.few i O hs
theorem Q9{W:Nat->Prop}(q:Dq X.S T W)(z:Int):({ X with S:=T }:Co).closed z=X.closed z:=by
 unfold Co.closed Mi.E8;simp only[q.g,q.bad,q.ps,q.o.1,q.o.2.1]
theorem Azp.dq{W:Nat->Prop}(q:Dq S T W){x:Me}{bs:List Nat}(r:Azp hf S ep x bs)(a:¬W x.Ai.toNat)(h2:¬W x.Aw.toNat):Azp hf T ep x bs:=
 r.F1 id (fun v h=>by rw[(q.same _ a).1];exact h) fun v h=>by rw[(q.same _ h2).1];exact h
theorem mz{x:Me}(h:meB g x=true):Sr g x.Ai x.off=true/\Sr g x.Aw x.off=true/\¬Bq g x.Ai=Bq g x.Aw/\(1<=x.seq/\x.seq<=281474976710655)/\0<=x.sum/\x.sum<=4294967295:=by
 unfold meB at h;simp only[aV,aS]at h;exact⟨h.1,h.2.1,h.2.2.1,⟨h.2.2.2.1,h.2.2.2.2.1⟩,h.2.2.2.2.2.1,h.2.2.2.2.2.2⟩
theorem G6{z off:Int}(h:Sr g z off=true):0<=Bq g z/\0<=off/\off<g.S:=by
 unfold Sr at h;simp only[aV,Fk]at h;refine⟨?_,h.2.2.1,a_⟩;unfold Bq;rw[aG a_];have:=(Jp h.1).z0;exact Int.ediv_nonneg a_ a_
theorem Fu.jC{x:Me}{bs:List Nat}(l:Fu hf X mt x bs):0<=Bq X.S.g x.Ai/\0<=Bq X.S.g x.Aw:=by
 obtain⟨a,b,_⟩:=mz l.ok;exact⟨(G6 a).1,(G6 b).1⟩
theorem El{z:Int}:X.closed z=true↔0<=Bq X.S.g z/\¬z=X.S.a/\¬z=X.S.b/\X.S.E8 z=false/\Vx X.cur X.Bt z=false/\hasB X.S.ps X.S.g.D.toNat z=false:=by
 unfold Co.closed;simp only[aV,aS,Bool.not_eq_true']
theorem vY{z:Int}:Vx cur Bt z=true↔∃i,i<3/\((¬cur i = -1/\z=cur i)\/(¬Bt i = -1/\z=Bt i)):=by
 have e:∀x:Int,T2 x z=true↔¬x = -1/\z=x:=fun x=>by
  unfold T2;simp only[aV,aS];exact⟨fun y=>⟨y.1,y.2.symm⟩,fun y=>⟨y.1,y.2.symm⟩⟩
 have st:Vx cur Bt z=(((false||(T2 (cur 0) z||T2 (Bt 0) z))||(T2 (cur 1) z||T2 (Bt 1) z))||(T2 (cur 2) z||T2 (Bt 2) z)):=rfl;rw[st];simp only[dY,e,aX,false_or];constructor
 ·rintro((h|h)|h)
  ·exact⟨0,a_,h⟩
  ·exact⟨1,a_,h⟩
  ·exact⟨2,a_,h⟩
 ·rintro⟨i,a,h⟩
  rcases i with _|_|_|i
  ·exact .inl (.inl h)
  ·exact .inl (.inr h)
  ·exact .inr h
  ·omega
theorem Cc.Vx{L:List (List Nat)}(C:Cc E X L mt)(z:Int):Go.Ev.Vx X.cur X.Bt z=true↔arB X z:=by
 rw[vY];constructor
 ·rintro⟨i,o,h⟩
  exact⟨i,o,h.elim (fun y=>.inl y.2) fun y=>.inr y.2⟩
 ·rintro⟨i,o,h⟩
  obtain⟨a,b,_⟩:=C.ar i o;have u:∀w:Int,Bq X.S.g w=i->¬w = -1:=fun w hw y=>by
   have:=Jb C.c.sm (z:=w);omega
  exact⟨i,o,h.elim (fun y=>.inl ⟨u _ a,y⟩) fun y=>.inr ⟨u _ b,y⟩⟩
theorem Cc.E8{L:List (List Nat)}(C:Cc E X L mt)(z:Int):X.S.E8 z=false:=by
 unfold Mi.E8;rw[aL (C.c.bad _),dV]
theorem Cc.cover{L:List (List Nat)}(C:Cc E X L mt){z:Int}(H:0<=Bq X.S.g z):X.closed z=true\/z∈X.S.ps (Bq X.S.g z).toNat\/arB X z\/z=X.S.a\/z=X.S.b:=by
 by_cases o:z=X.S.a
 ·exact .inr (.inr (.inr (.inl o)))
 by_cases h2:z=X.S.b
 ·exact .inr (.inr (.inr (.inr h2)))
 cases u:Go.Ev.Vx X.cur X.Bt z with
 | true=>exact .inr (.inr (.inl ((C.Vx z).1 u)))
 | false=>
 cases h4:hasB X.S.ps X.S.g.D.toNat z with
 | true=>
  obtain⟨d,hd,hm⟩:=Jm.1 h4;have:=(C.c.wf.ps d hd z hm).1;refine .inr (.inl ?_);rw[this];exact hm
 | false=>exact .inl (El.2 ⟨H,o,h2,C.E8 z,u,h4⟩)
theorem Cc.dq{L:List (List Nat)}(C:Cc E X L mt){W:Nat->Prop}(q:Dq X.S T W)(id:Idle X.S W)(lv:∀x∈X.es,x.state=1->¬W x.Ai.toNat/\¬W x.Aw.toNat)(O:∀i,i<3->¬W (X.cur i).toNat):Cc E { X with S:=T } L mt:=by
 have P:=C.c.dq q id;have V:T.g.B=X.S.g.B:=by rw[q.g]
 refine⟨P,C.un,by show ∀i,i<3->Bq T.g _=_/\Bq T.g _=_/\_;rw[q.g];exact C.ar,fun z H=>?_,fun i u=>?_,by show ¬T.a = -1->mt T.a=T.b/\mt T.b=T.a;rw[q.o.1,q.o.2.1];exact C.opm,C.len,by show X.es.length=T.g.B.toNat;rw[q.g];exact C.lb,fun b x bs J Q=>?_,C.sq,C.nm,C.hd.imp (fun y=>y) fun h i u=>(h i u).same q.g (q.same _ (O i u)).1⟩
 ·have:=C.arz z H
  show ¬z=T.a/\¬z=T.b/\(∀d,d<T.g.D.toNat->z ∉ T.ps d)/\¬(T.dr.dv.zs z.toNat).st=1;rw[q.o.1,q.o.2.1,q.g,q.ps];refine⟨this.1,this.2.1,this.2.2.1,fun y=>?_⟩;obtain⟨i,u,h⟩:=H;have hd:0<=Bq X.S.g z:=by
   obtain⟨a,b,_⟩:=C.ar i u;rcases h with h|h
   ·rw[show z=X.cur i from h];omega
   ·rw[show z=X.Bt i from h];omega
  obtain⟨_,U,_⟩:=Mu C.c hd;rcases eO (W z.toNat)with w|w
  ·have:=q.Ats _ w U;omega
  ·rw[(q.same _ w).2]at y;exact this.2.2.2 y
 ·have u:i<T.dr.dv.n:=u
  rw[q.n]at u;show(T.dr.dv.zs i).st<=2/\((T.dr.dv.zs i).st=0->(T.dr.dv.zs i).l = []);rcases eO (W i)with w|w
  ·rcases q.Ats _ w u with y|y
   ·exact⟨a_,fun _=>y.2⟩
   ·exact⟨a_,fun z=>a_⟩
  ·rw[(q.same _ w).2,(q.same _ w).1];exact C.s2 i u
 ·rcases C.Av4 b x bs J Q with y|y
  ·exact .inl y
  ·obtain⟨w1,w2⟩:=lv x (bh J) y.st
   refine .inr ⟨y.st,by show meB T.g x=true;rw[q.g];exact y.ok,y.rc.dq q w1 w2,y.m1,y.m2,?_⟩;rw[Q9 q,Q9 q];show(x.Ai=T.a/\x.Aw=T.b)\/_;rw[q.o.1,q.o.2.1];exact y.wh
section
def Mi.room(S:Mi):Int:=if S.a = -1 then 0 else S.g.S-S.u
def Mi.free(S:Mi):Int:=S.g.S*F2 S.ps S.g.D.toNat+S.room
theorem Calm.tA(c:Calm S):0<=S.room/\S.room<=S.g.S/\(¬Roomy S->S.room=0)/\(Roomy S->S.room=S.g.S-S.u):=by
 have:=c.sm.s0;unfold Mi.room Roomy;rcases c.opn with y|⟨_,_,_,o,C,_⟩
 ·rw[aI y.1];exact⟨a_,a_,fun _=>rfl,fun z=>absurd y.1 z.1⟩
 ·by_cases h:S.a = -1
  ·rw[aI h];exact⟨a_,a_,fun _=>rfl,fun z=>absurd h z.1⟩
  ·rw[aG h];exact⟨a_,a_,fun z=>by have:¬S.u<S.g.S:=fun w=>z ⟨h,w⟩;omega,fun _=>rfl⟩
theorem Bc1(c:Calm S)(h:1<=S.free):∃T,S.mA=some T:=by
 unfold Mi.mA;by_cases r:Roomy S
 ·rw[aI r];exact⟨S,rfl⟩
 ·rw[aG r]
  have a:=(c.tA).2.2.1 r;have hp:¬F2 S.ps S.g.D.toNat=0:=fun y=>by
   unfold Mi.free at h;rw[y,a,Int.mul_zero]at h;omega
  unfold jV;rw[aG hp];exact⟨_,rfl⟩
section
variable{L:List (List Nat)}
theorem Cc.opened(C:Cc E X L mt)(h:X.S.mA=some T):∃mt',Cc E { X with S:=T } L mt'/\X.S.free<=T.free/\Roomy T/\T.g=X.S.g/\(∀z,0<=Bq X.S.g z->X.closed z=true->({ X with S:=T }:Co).closed z=true)/\(∀x∈X.es,x.state=1->mt' x.Ai=mt x.Ai/\mt' x.Aw=mt x.Aw):=by
 have V:=TI C.c h;have s:=C.c.sm;unfold Mi.mA at h;by_cases r:Roomy X.S
 ·rw[aI r]at h
  cases h;exact⟨mt,C,cN _,r,rfl,fun _ _ y=>y,fun _ _ _=>⟨rfl,rfl⟩⟩
 rw[aG r]at h;cases hp:jV X.S.ps X.S.g.D.toNat with
 | none=>rw[hp]at h;cases h
 | some t=>
 obtain⟨x,y,f_⟩:=t;rw[hp]at h;cases h;have tk:=Bb3 s C.c.wf.ps hp;obtain⟨i,j,hi,hj,ay,ex,ey,ek,_,_,dx,dy⟩:=tw C.c.wf.ps hp;have mx:x∈X.S.ps i:=by rw[ex];exact aW ..
 have my:y∈X.S.ps j:=by rw[ey];exact aW ..
 have ad:¬x=y:=fun e=>by rw[e]at dx;omega
 have sub:∀d z,z∈f_ d->z∈X.S.ps d:=fun d z o=>by
  by_cases J:d=i
  ·subst J;rw[ex];exact aT _ o
  ·by_cases h2:d=j
   ·subst h2;rw[ey];exact aT _ o
   ·rw[<-ek d J h2];exact o
 have hB:∀z,hasB X.S.ps X.S.g.D.toNat z=false->hasB f_ X.S.g.D.toNat z=false/\¬z=x/\¬z=y:=fun z o=>by
  refine⟨?_,fun e=>?_,fun e=>?_⟩
  ·cases P:hasB f_ X.S.g.D.toNat z with
   | false=>rfl
   | true=>
    obtain⟨d,hd,hm⟩:=Jm.1 P;rw[Jm.2 ⟨d,hd,sub d z hm⟩]at o;exact o
  ·rw[Jm.2 ⟨i,hi,by rw[e];exact mx⟩]at o;cases o
  ·rw[Jm.2 ⟨j,hj,by rw[e];exact my⟩]at o;cases o
 let T:Mi:={ X.S.Sa with ps:=f_,a:=x,b:=y,u:=0 }
 have O:∀z,X.closed z=true->({ X with S:=T }:Co).closed z=true/\¬z=x/\¬z=y:=fun z o=>by
  obtain⟨a1,a2,a3,a4,a5,a6⟩:=El.1 o;obtain⟨b1,b2,b3⟩:=hB z a6;exact⟨El.2 ⟨a1,b2,b3,a4,a5,b1⟩,b2,b3⟩
 have Q:∀z,(z=X.S.a\/z=X.S.b)->0<=Bq X.S.g z->({ X with S:=T }:Co).closed z=true/\¬z=x/\¬z=y:=fun z o hd=>by
  rcases C.c.opn with w|⟨w1,w2,_,_,_,w6,_⟩
  ·have:=Jb s hd;rcases o with rfl|rfl<;>omega
  have nb:hasB X.S.ps X.S.g.D.toNat z=false:=by
   cases P:hasB X.S.ps X.S.g.D.toNat z with
   | false=>rfl
   | true=>
    obtain⟨d,U,hm⟩:=Jm.1 P;rcases o with rfl|rfl
    ·exact absurd hm (w6 d U).1
    ·exact absurd hm (w6 d U).2
  obtain⟨b1,b2,b3⟩:=hB z nb;refine⟨El.2 ⟨hd,b2,b3,C.E8 z,?_,b1⟩,b2,b3⟩;cases P:Go.Ev.Vx X.cur X.Bt z with
  | false=>rfl
  | true=>
   have:=C.arz z ((C.Vx z).1 P);rcases o with rfl|rfl
   ·exact absurd rfl this.1
   ·exact absurd rfl this.2.1
 let mt':Int->Int:=fun z=>if z=x then y else if z=y then x else mt z
 have me:∀z,¬z=x->¬z=y->mt' z=mt z:=fun z J h2=>by show(if z=x then y else if z=y then x else mt z)=_;rw[aG J,aG h2]
 have lz:∀{hf:Prop} H bs,Fu hf X mt H bs->(({ X with S:=T }:Co).closed H.Ai=true/\¬H.Ai=x/\¬H.Ai=y)/\(({ X with S:=T }:Co).closed H.Aw=true/\¬H.Aw=x/\¬H.Aw=y):=fun {hf} H bs l=>by
  obtain⟨d1,d2⟩:=l.jC;rcases l.wh with⟨w1,w2⟩|⟨w1,w2⟩
  ·exact⟨Q _ (.inl w1) d1,Q _ (.inr w2) d2⟩
  ·exact⟨O _ w1,O _ w2⟩
 refine⟨mt',⟨V.1,C.un,C.ar,fun z o=>?_,C.s2,fun _=>⟨?_,?_⟩,C.len,C.lb,fun b H bs hx hl=>?_,C.sq,C.nm,C.hd⟩,?_,V.2.1,rfl,fun z _ o=>(O z o).1,fun H af J=>?_⟩
 ·obtain⟨a1,a2,a3,a4⟩:=C.arz z o
  exact⟨fun e=>a3 i hi (by rw[e];exact mx),fun e=>a3 j hj (by rw[e];exact my),fun d hd hm=>a3 d hd (sub d z hm),a4⟩
 ·show(if x=x then y else _)=y;rw[aI rfl]
 ·show(if y=x then y else if y=y then x else mt y)=x;rw[aG (cR ad),aI rfl]
 ·rcases C.Av4 b H bs hx hl with w|w
  ·exact .inl w
  ·obtain⟨⟨c1,n1,n2⟩,c2,n3,n4⟩:=lz H bs w
   exact .inr ⟨w.st,w.ok,w.rc.F1 id (fun _ h=>h) fun _ h=>h,by rw[me _ n1 n2];exact w.m1,by rw[me _ n3 n4];exact w.m2,.inr ⟨c1,c2⟩⟩
 ·have hr:=(C.c.tA).2.2.1 r
  show X.S.g.S*F2 X.S.ps X.S.g.D.toNat+X.S.room<=X.S.g.S*F2 f_ X.S.g.D.toNat+T.room;have:T.room=X.S.g.S:=by
   have:=(V.1.tA).2.2.2 V.2.1;rw[this];show X.S.g.S-0=_;omega
  rw[this,hr];have:=s.s0;have:=bU tk (show 0<=X.S.g.S from a_);rw[Int.mul_sub,Int.mul_one]at this;omega
 ·obtain⟨b,hb⟩:=eH.1 af
  have ai:b<L.length:=by rw[C.len];exact(aY.1 hb).1
  rcases C.Av4 b H _ hb (aD ai)with w|w
  ·rw[w.1]at J;cases J
  ·obtain⟨⟨_,n1,n2⟩,_,n3,n4⟩:=lz H _ w
   exact⟨me _ n1 n2,me _ n3 n4⟩
theorem Cc.Tu(C:Cc E X L mt)(r:Roomy X.S)(we:e.Wf)(he:EOk e X.ep X.nx):Cc E { X with S:=X.S.Tu e X.ep X.nx,nx:=X.nx+1 } L mt/\(X.S.Tu e X.ep X.nx).free=X.S.free-1 /\
 (¬e.kind=2->Azp False (X.S.Tu e X.ep X.nx) X.ep ⟨1,X.S.a,X.S.b,X.S.u,X.nx,(Fq e.bytes:Nat)⟩ e.bytes):=by
 have ca:=C.c.Tu r e X.ep X.nx;obtain⟨n1,n2,n3,n4,n5,n6,n7⟩:=C.c.ne r;obtain⟨la,sa⟩:=n7 _ (.inl rfl);obtain⟨lb,sb⟩:=n7 _ (.inr rfl);have za:((X.S.Tu e X.ep X.nx).dr.dv.zs X.S.a.toNat)=(X.S.dr.dv.zs X.S.a.toNat).app X.S.dr.dv.size (jf e X.S.a X.S.b X.S.u X.ep X.nx):=by
  show Hd (Hd X.S.dr.dv.zs X.S.a.toNat _) X.S.b.toNat _ X.S.a.toNat=_;unfold Hd;rw[aG n5,aI rfl]
 have zb:((X.S.Tu e X.ep X.nx).dr.dv.zs X.S.b.toNat)=(X.S.dr.dv.zs X.S.b.toNat).app X.S.dr.dv.size (jf e X.S.b X.S.a X.S.u X.ep X.nx):=by
  show Hd (Hd X.S.dr.dv.zs X.S.a.toNat _) X.S.b.toNat _ X.S.b.toNat=_;unfold Hd;rw[aI rfl]
 have P:∀i,i≠X.S.a.toNat->i≠X.S.b.toNat->((X.S.Tu e X.ep X.nx).dr.dv.zs i)=X.S.dr.dv.zs i:=fun i H h2=>by
  show Hd (Hd X.S.dr.dv.zs X.S.a.toNat _) X.S.b.toNat _ i=_;unfold Hd;rw[aG h2,aG H]
 have F1:∀(i o:Nat) v,(X.S.dr.dv.zs i).l[o]? = some v->((X.S.Tu e X.ep X.nx).dr.dv.zs i).l[o]? = some v:=fun i o v Q=>by
  have ho:=(aY.1 Q).1;by_cases H:i=X.S.a.toNat
  ·subst H;rw[za];simp only[Zn.app];rw[cb ho];exact Q
  ·by_cases h2:i=X.S.b.toNat
   ·subst h2;rw[zb];simp only[Zn.app];rw[cb ho];exact Q
   ·rw[P i H h2];exact Q
 have O:∀i,(((X.S.Tu e X.ep X.nx).dr.dv.zs i).st<=2/\¬((X.S.Tu e X.ep X.nx).dr.dv.zs i).st=0)\/((X.S.Tu e X.ep X.nx).dr.dv.zs i)=X.S.dr.dv.zs i:=fun i=>by
  by_cases H:i=X.S.a.toNat
  ·subst H;left;rw[za];simp only[Zn.app];split<;>omega
  ·by_cases h2:i=X.S.b.toNat
   ·subst h2;left;rw[zb];simp only[Zn.app];split<;>omega
   ·exact .inr (P i H h2)
 have ad:∀i,i<3->((X.S.Tu e X.ep X.nx).dr.dv.zs (X.cur i).toNat).l=(X.S.dr.dv.zs (X.cur i).toNat).l:=fun i J=>by
  obtain⟨a,_⟩:=C.ar i J;obtain⟨U,V,_⟩:=C.arz _ ⟨i,J,.inl rfl⟩;rw[P _ (fun y=>U (Kg C.c.sm a_ n1 y)) (fun y=>V (Kg C.c.sm a_ n2 y))]
 refine⟨⟨ca,C.un,C.ar,fun z hz=>?_,fun i J=>?_,C.opm,C.len,C.lb,fun b x bs hx hl=>?_,fun x hx=>?_,⟨C.nm.1,C.nm.2.1,?_⟩,C.hd.imp id fun h i J=>(h i J).same rfl (ad i J)⟩,?_,fun hk=>?_⟩
 ·obtain⟨U,V,a3,a4⟩:=C.arz z hz
  refine⟨U,V,a3,?_⟩;obtain⟨i,J,h⟩:=hz;have hd:0<=Bq X.S.g z:=by
   obtain⟨a,b,_⟩:=C.ar i J;rcases h with h|h
   ·rw[show z=X.cur i from h];omega
   ·rw[show z=X.Bt i from h];omega
  show ¬((X.S.Tu e X.ep X.nx).dr.dv.zs z.toNat).st=1;rw[P _ (fun y=>U (Kg C.c.sm hd n1 y)) (fun y=>V (Kg C.c.sm hd n2 y))];exact a4
 ·rcases O i with y|y
  ·exact⟨y.1,fun z=>absurd z y.2⟩
  ·show((X.S.Tu e X.ep X.nx).dr.dv.zs i).st<=2/\(((X.S.Tu e X.ep X.nx).dr.dv.zs i).st=0->((X.S.Tu e X.ep X.nx).dr.dv.zs i).l = [])
   rw[y];exact C.s2 i J
 ·rcases C.Av4 b x bs hx hl with w|w
  ·exact .inl w
  ·exact .inr ⟨w.st,w.ok,w.rc.F1 id (F1 _ _) (F1 _ _),w.m1,w.m2,w.wh⟩
 ·have:=C.sq x hx
  show x.seq<X.nx+1;omega
 ·show 1<=X.nx+1;have:=C.nm.2.2;omega
 ·have H:=(C.c.tA).2.2.2 r
  unfold Mi.free;have h2:(X.S.Tu e X.ep X.nx).room=X.S.g.S-(X.S.u+1):=by
   show(if X.S.a = -1 then 0 else X.S.g.S-(X.S.u+1))=_;rw[aG r.1]
  rw[H,h2];show X.S.g.S*F2 X.S.ps X.S.g.D.toNat+_=_;omega
 ·refine⟨e,we,rfl,hk,he,rfl,.inl ?_,.inl ?_⟩
  ·show((X.S.Tu e X.ep X.nx).dr.dv.zs X.S.a.toNat).l[X.S.u.toNat]? = _
   rw[za];simp only[Zn.app];rw[cp a_,show X.S.u.toNat-(X.S.dr.dv.zs X.S.a.toNat).l.length=0 from a_];rfl
  ·show((X.S.Tu e X.ep X.nx).dr.dv.zs X.S.b.toNat).l[X.S.u.toNat]? = _
   rw[zb];simp only[Zn.app];rw[cp a_,show X.S.u.toNat-(X.S.dr.dv.zs X.S.b.toNat).l.length=0 from a_];rfl
theorem Cc.set(C:Cc E X L mt)(hj:j<X.es.length){x:Me}{bs:List Nat}(O:(x=Me.nil 0/\bs = [])\/Fu False X mt x bs)(hs:x.seq<X.nx)(P:∀b,E b->b=j\/G b):Cc G { X with es:=X.es.set j x } (L.set j bs) mt:=by
 refine⟨C.c,C.un,C.ar,C.arz,C.s2,C.opm,by show(L.set j bs).length=(X.es.set j x).length;rw[bM,bM];exact C.len,by show(X.es.set j x).length=_;rw[bM];exact C.lb,fun b y J a u=>?_,fun y a=>?_,C.nm,C.hd⟩
 ·have a:(X.es.set j x)[b]? = some y:=a
  have up:∀{hf hg:Prop} {H:Me} {o:List Nat},(hf->hg)->Fu hf X mt H o->Fu hg { X with es:=X.es.set j x } mt H o:=fun i w=>⟨w.st,w.ok,w.rc.F1 i (fun _ h=>h) fun _ h=>h,w.m1,w.m2,w.wh⟩
  rw[cW]at a u;by_cases h:j=b
  ·subst h
   rw[aI rfl,aI hj]at a;rw[aI rfl,aI (by rw[C.len];exact hj)]at u;cases a;cases u;exact O.imp id (up False.elim)
  ·rw[aG h]at a u
   exact(C.Av4 b y J a u).imp id (up fun y=>(P b y).resolve_left fun z=>h z.symm)
 ·rcases cZ a with H|rfl
  ·exact C.sq y H
  ·exact hs
end
end
section
structure Fd(S0 D:J1)(z:Int)(Y:List (List EV)):Prop where
 ev:D.ev = []
 up:D.dv.down=false
 hp:D.Qp=S0.Qp
 n:D.dv.n=S0.dv.n
 size:D.dv.size=S0.dv.size
 op:D.dv.op=S0.dv.op
 same:∀i:Nat,¬i=z.toNat->D.dv.zs i=S0.dv.zs i
 here:(D.dv.zs z.toNat).l=Y/\(D.dv.zs z.toNat).st=if Y.length=S0.dv.size then 2 else if Y.length=0 then 0 else 1
structure Tz(S:Mi)(z:Int):Prop where
 c:Calm S
 d:0<=Bq S.g z
 st:(S.dr.dv.zs z.toNat).st=0/\(S.dr.dv.zs z.toNat).l = []\/(S.dr.dv.zs z.toNat).st=2
theorem TJ {zs:Nat->Zn}{l:List Int}:∀n,(∀i,i<n->(zs i).st=1->(i:Int)∈l)->R9 zs n<=cn (fun i=>decide ((i:Int)∈l)) n
 | 0,_=>aE _
 | n+1,h=>by
  rw[zA];have o:=TJ n fun i u=>h i a_
  unfold cn;by_cases a:(zs n).st=1
  ·rw[aI a,aI (aO (h n (aN _) a))];omega
  ·rw[aG a];omega
section
variable{z:Int}(t:Tz S z)
include t
theorem Tz.pos:0<S.dr.dv.size:=by have:=t.c.sm.s0;have:=t.c.size;omega
theorem Tz.has {D:J1}{Y:List (List EV)}(f:Fd S.dr D z Y):D.dv.has z=true:=by
 obtain⟨a,b,_⟩:=Mu t.c t.d;unfold Dv.has;rw[f.n];exact aO ⟨a,a_⟩
theorem Bj2(h:(S.dr.dv.zs z.toNat).st=0):Fd S.dr S.dr z []:=by
 have:=t.pos;refine⟨t.c.ev,t.c.up,rfl,rfl,rfl,rfl,fun _ _=>rfl,?_⟩;rcases t.st with y|y
 ·rw[y.2,y.1,aG (by show ¬0=_;omega),aI (show([]:List (List EV)).length=0 from rfl)];exact⟨rfl,rfl⟩
 ·omega
theorem TK:(S.dr.reset z).2=0/\Fd S.dr (S.dr.reset z).1 z []:=by
 obtain⟨a,b,o,_⟩:=Mu t.c t.d;have hs:=t.pos;have be:=tB t.c.up o;have hf:Le (S.dr.dv.zs z.toNat).st=0:=by
  rcases t.st with⟨y,_⟩|y<;>rw[y]<;>rfl
 unfold J1.reset;rw[Vu t.c.ev];unfold Dv.reset;rw[aG (by rw[be];exact fun y=>y rfl),aI hf,hf];refine⟨rfl,t.c.ev,t.c.up,rfl,rfl,rfl,rfl,fun i u=>?_,?_⟩
 ·show Hd S.dr.dv.zs z.toNat Zn.empty i=_
  unfold Hd;rw[aG u]
 ·have e:((S.dr.dv.tick.set z.toNat Zn.empty).zs z.toNat)=Zn.empty:=by
   show Hd S.dr.dv.zs z.toNat Zn.empty z.toNat=_;unfold Hd;rw[aI rfl]
  show((S.dr.dv.tick.set z.toNat Zn.empty).zs z.toNat).l = []/\((S.dr.dv.tick.set z.toNat Zn.empty).zs z.toNat).st=_;rw[e,aG (by show ¬0=_;omega),aI (show([]:List (List EV)).length=0 from rfl)];exact⟨rfl,rfl⟩
theorem Bhl {D:J1}{Y:List (List EV)}(f:Fd S.dr D z Y)(P:Y.length<S.dr.dv.size)(x:List EV):(D.append z x).2=((Y.length:Int),0)/\Fd S.dr (D.append z x).1 z (Y++[x]):=by
 have H:=t.has f;obtain⟨u,C⟩:=f.here;have h2:(D.dv.zs z.toNat).st<2:=by rw[C,aG a_];split<;>omega
 have J:¬D.dv.op<=R9 D.dv.zs D.dv.n:=by
  have h0:=Jb t.c.sm t.d;have Q:=TJ (zs:=D.dv.zs) (l:=[S.a,S.b,z]) D.dv.n fun i O y=>by
   simp only[bX,List.not_mem_nil,or_false];by_cases e:i=z.toNat
   ·exact .inr (.inr a_)
   ·rw[f.same i e]at y
    rcases t.c.few i (by rw[<-f.n];exact O) y with w|w
    ·exact .inl w
    ·exact .inr (.inl w)
  have h2:=lh D.dv.n [S.a,S.b,z];have U:([S.a,S.b,z]:List Int).length=3:=rfl;have:=t.c.sm.o0;have h4:=f.op;have V:=t.c.op;omega
 unfold J1.append;rw[Vu f.ev,TL f.up H h2 J];have e2:((D.dv.tick.set z.toNat ((D.dv.zs z.toNat).app D.dv.size x)).zs z.toNat)=(D.dv.zs z.toNat).app D.dv.size x:=by
  show Hd D.dv.zs z.toNat _ z.toNat=_;unfold Hd;rw[aI rfl]
 refine⟨by rw[u],f.ev,f.up,f.hp,f.n,f.size,f.op,fun i o=>?_,?_⟩
 ·show Hd D.dv.zs z.toNat _ i=_
  unfold Hd;rw[aG o];exact f.same i o
 ·show((D.dv.tick.set z.toNat ((D.dv.zs z.toNat).app D.dv.size x)).zs z.toNat).l=Y++[x]/\((D.dv.tick.set z.toNat ((D.dv.zs z.toNat).app D.dv.size x)).zs z.toNat).st=_
  rw[e2];unfold Zn.app;refine⟨by rw[<-u],?_⟩;show(if(D.dv.zs z.toNat).l.length+1=D.dv.size then 2 else 1)=_;rw[u,f.size,aF,show([x]:List (List EV)).length=1 from rfl];split
  ·rfl
  ·rw[aG a_]
theorem TM {D:J1}{Y:List (List EV)}(f:Fd S.dr D z Y)(h:(D.dv.zs z.toNat).st=2\/Y = []):Dq S { S with dr:=D } fun i=>i=z.toNat:=by
 refine⟨rfl,rfl,rfl,⟨rfl,rfl,rfl⟩,f.ev,f.up,f.hp,f.n,f.size,f.op,fun i o=>?_,fun i o _=>?_⟩
 ·show(D.dv.zs i).l=_/\(D.dv.zs i).st=_
  rw[f.same i o];exact⟨rfl,rfl⟩
 ·subst o
  rcases h with h|h
  ·exact .inr h
  ·subst h
   have hs:=t.pos;obtain⟨a,b⟩:=f.here;rw[aG (by show ¬0=_;omega),aI (show([]:List (List EV)).length=0 from rfl)]at b;exact .inl ⟨b,a⟩
theorem Bi2 {D:J1}{Y:List (List EV)}(f:Fd S.dr D z Y):(D.finish z).2=0/\(Dq S { S with dr:=(D.finish z).1 } fun i=>i=z.toNat)/\((D.finish z).1.dv.zs z.toNat).l=Y:=by
 have u:=t.has f;have be:=tB f.up u;obtain⟨C,o⟩:=f.here;have hf:Le (D.dv.zs z.toNat).st=0:=by
  rw[o];split
  ·rfl
  ·split<;>rfl
 unfold J1.finish;rw[Vu f.ev];unfold Dv.finish;rw[aG (by rw[be];exact fun y=>y rfl),aI hf,hf];have e2:((D.dv.tick.set z.toNat (D.dv.zs z.toNat).finish).zs z.toNat)=(D.dv.zs z.toNat).finish:=by
  show Hd D.dv.zs z.toNat _ z.toNat=_;unfold Hd;rw[aI rfl]
 refine⟨rfl,⟨rfl,rfl,rfl,⟨rfl,rfl,rfl⟩,f.ev,f.up,f.hp,f.n,f.size,f.op,fun i a=>?_,fun i a _=>?_⟩,?_⟩
 ·have e1:((D.dv.tick.set z.toNat (D.dv.zs z.toNat).finish).zs i)=D.dv.zs i:=by
   show Hd D.dv.zs z.toNat _ i=_;unfold Hd;rw[aG a]
  show((D.dv.tick.set z.toNat (D.dv.zs z.toNat).finish).zs i).l=_/\((D.dv.tick.set z.toNat (D.dv.zs z.toNat).finish).zs i).st=_;rw[e1,f.same i a];exact⟨rfl,rfl⟩
 ·subst a
  right;show((D.dv.tick.set z.toNat (D.dv.zs z.toNat).finish).zs z.toNat).st=2;rw[e2];rfl
 ·show((D.dv.tick.set z.toNat (D.dv.zs z.toNat).finish).zs z.toNat).l=Y
  rw[e2];exact C
end
section
variable (A:Bu disp)(hK:10000<K){ar m:Nat}(M:Da h m S F)(hb:HB h)(hA:h.get ar=some (.cells (arC m cur Bt) 124))(fA:F ar){z:Int}(t:Tz S z)
include A hK t
theorem Bpd(M:Da h m S F)(hb:HB h)(hA:h.get ar=some (.cells (arC m cur Bt) 124))(hd:15<=d):Ok (Ag TT disp K d false 163 [.ptr ar 0,I z] h) fun v h'=>v=I 0/\(∃o,Da h' m { S with dr:=o } F/\Fd S.dr o z [])/\Kf F h h'/\HB h':=by
 obtain⟨e,rfl⟩:=d_ d;rw[Aqe A a_];simp only[LL,Aa];rw[Aj hA rfl (v:=.ptr m 0) rfl];obtain⟨D,V,dr⟩:=nJ A hK M hb;rw[dr.D8,dr.device,dr.state,aI (Mu t.c t.d).2.2.1];simp only[I,Ac];by_cases u:(S.dr.dv.zs z.toNat).st=0
 ·rw[u]
  simp only[show decide (((0:Nat):Int)=0)=true from rfl,Aa];exact .ret ⟨rfl,⟨S.dr,M,Bj2 t u⟩,Av.refl _,hb⟩
 ·rw[aL a_]
  simp only[Aa,LK];rw[Aj hA rfl (v:=.ptr m 0) rfl,dr.D8];obtain⟨C,H⟩:=TK t;refine(dr.reset (d:=e) a_ z (by rw[Vu t.c.ev];exact t.pos)).Am ?_;rintro _ h' ⟨rfl,M2,J,a⟩;rw[C];exact .ret ⟨rfl,⟨_,M2,H⟩,J,a⟩
theorem A8g(hd:14<=d){X:List (List EV)}(hX:ue X)(ai:X.length<=S.dr.dv.size)(aj:0<X.length)(al:S.dr.dv.size<=64):∀(f i:Nat) (h:Ab) (D:J1),X.length-i<f->i<=X.length->Da h m { S with dr:=D } F->HB h->h.get ar=some (.cells (arC m cur Bt) 124)->F ar->F q->Ce h v q 29 64 X.length X.flatten->Fd S.dr D z (X.take i) ->
 Ok (Mq (Ag TT disp K d false) (Ag TT disp K d true) K f (.ptr ar 0) (I z) v (I X.length) (I i) h) fun w h'=>w=I 0/\(∃C,Da h' m { S with dr:=C } F/\(Dq S { S with dr:=C } fun i=>i=z.toNat)/\(C.dv.zs z.toNat).l=X)/\Kf F h h'/\HB h':=by
 intro f;induction f with
 | zero=>intro i h D hf;omega
 | succ f ih=>
  intro i h D hf hi M hb hA fA fq row c;rw[Mq];simp only[I,Ac];by_cases o:i<X.length
  ·have:decide ((i:Int)<(X.length:Int))=true:=by simp;omega
   simp only[this,Aa,LG];obtain⟨O,xu⟩:=hX _ (bI o);have e1:Ou X.flatten (i*64) 64=some X[i]:=tY (n:=64) _ _ _ (fun x hx=>(hX x hx).1) (aD o);have ix:=row.ix o .i64;rw[ix,Cp (row.block a_) rfl e1];have lt:(X.take i).length=i:=by rw[bW];omega
   have eT:X.take (i+1)=X.take i++[X[i]]:=br o;generalize X[i]=x at O xu eT⊢
   try simp only[Aa]
   refine Ok.mk (by simp) O fun h2 P g2 _=>?_
   have a:=P.hb hb;have H:=P.at hb hA;have M2:=(M.ext hb P).less fun j (hj:F j)=>Or.inl hj
   have l2:=a _ _ H;have l3:=a _ _ g2;obtain⟨D1,V,dr⟩:=nJ A hK M2 a;rw[Hl l2,Aj H rfl (v:=.ptr m 0) rfl]
   try simp only[Aa,As]
   rw[kr dr.Brr]
   try simp only[Aa,As]
   rw[Hl l3,Cp g2 rfl (Ak O)]
   try simp only[Aa,As]
   obtain⟨Q,J⟩:=Bhl t c a_ x;rw[lt]at Q;rw[<-eT]at J;refine dr.append hd z O xu (by kernel_rfl) (by kernel_rfl) (fun _=>by kernel_rfl) ?_;intro h4 s4 M4 k4 U;rw[show(({ S with dr:=D }:Mi).dr.append z x)=D.append z x from rfl]at *;rw[Q];simp only[Aa,I,Ac,aC,aB,aA,LF,LD,LC];rw[Ch,show((i:Nat):Int)+1=((i+1:Nat):Int) from a_];have u:Kf F h h4:=(Ext.kf P).trans k4;refine(ih (i+1) h4 _ a_ a_ M4 U (u.at hb hA fA) fA fq (row.frame fun y=>u.get _ (hb _ _ (row.block y)) fun y=>y fq) J).mono ?_;rintro _ h5 ⟨rfl,⟨C,M5,c5⟩,k5,aa⟩;exact⟨rfl,⟨C,M5,c5⟩,u.trans k5,aa⟩
  ·have:i=X.length:=a_
   subst this;have:decide ((X.length:Int)<(X.length:Int))=false:=by simp
   simp only[this,Aa,LB];rw[Aj hA rfl (v:=.ptr m 0) rfl];obtain⟨D1,V,dr⟩:=nJ A hK M hb;rw[dr.D8,dr.device];have st:=dr.state z;simp only[I]at st;rw[st,aI (t.has c)];simp only[I,Ac];by_cases hz:(D.dv.zs z.toNat).st=2
   ·rw[hz]
    simp only[show decide (((2:Nat):Int)=2)=true from rfl,Aa];exact .ret ⟨rfl,⟨D,M,TM t c (.inl hz),by rw[c.here.1,bY]⟩,Av.refl _,hb⟩
   ·rw[aL a_]
    simp only[Aa,LA];rw[Aj hA rfl (v:=.ptr m 0) rfl,dr.D8];obtain⟨Q,J⟩:=Bi2 t c;refine(dr.finish (d:=d) hd z).Am ?_;rintro _ h' ⟨rfl,M2,k2,a⟩;rw[show(({ S with dr:=D }:Mi).dr.finish z)=D.finish z from rfl]at *;rw[Q];exact .ret ⟨rfl,⟨_,M2,J.1,by rw[J.2,bY]⟩,k2,a⟩
include M hb hA fA
theorem Br5 {ml ll:Nat}{es:List Me}(mp:Oh h b ml ll S.g es){x y w:Int}(hR:iO x y w es=true)(hd:17<=d):Ok (Ag TT disp K d false 126 [.ptr ar 0,.agg [I x,I y,I w,.ptr b 0],I z] h) fun v h'=>v=I 0/\(∃D',Da h' m { S with dr:=D' } F/\(Dq S { S with dr:=D' } fun i=>i=z.toNat)/\(D'.dv.zs z.toNat).l=nu S.g es x y w z)/\Kf F h h'/\HB h':=by
 have hr:=t.c.rt;have s:=Jp hr;have n0:=Jb s t.d;have n1:z<S.g.D*S.g.Z:=by rcases I8 s z with y|⟨_,_,_,_,y⟩;have:=t.d;omega;exact y
 have hp:S.g.parts<=S.g.S:=by
  have:=hr;unfold rtB at this;simp only[aV,aS]at this;exact this.2.1
 have ay:=t.c.size;have:=s.s0;have:=s.s1;have:=s.b0;have az:1<=S.g.parts:=by unfold Gm.parts;omega
 obtain⟨e,rfl⟩:=d_ d;rw[Arx A a_];simp only[LJ,Aa];obtain⟨h1,e_,x1,g1,a3⟩:=nW h (.cells [I x,I y,I w,.ptr b 0] 137);rw[e_];have u:=x1.hb hb;have P:=x1.at hb hA;have M1:=(M.ext hb x1).less fun j (hj:F j)=>Or.inl hj
 have l1:=u _ _ P;obtain⟨D,V,dr⟩:=nJ A hK M1 u;rw[Hl l1,Aj P rfl (v:=.ptr m 0) rfl]
 try simp only[Aa,As]
 refine Ok.bE dr.table (fun _ _ p=>p.2) ?_;rintro _ a5 h2 ⟨rfl,_⟩ _ x2;have J:=x2.hb u;have g2:=x2.at u g1;have l2:=J _ _ g2;have af:h.next<h1.next:=a_
 try simp only[Aa,As]
 rw[Hl af,Cz g2 rfl,Ak (n:=4) rfl]
 try simp only[Aa,As]
 have a:Ext h h2:=x1.trans x2;have ag:Oh h2.lift b ml ll S.g es:=(mp.frame (a.get _ (hb _ _ mp.map) id) (a.get _ (hb _ _ mp.row) id) (a.get _ (hb _ _ mp.live) id)).frame (Bx _ _) (Bx _ _) (Bx _ _);refine Ok.bE (Y' (K:=K) A (d:=e) a_ hK hr ag (C8 J) hR n0 n1) (fun _ _ p=>by obtain⟨_,_,_,_,_,_,_,_,p,_⟩:=p;exact p) ?_;rintro _ a6 h3 ⟨v,q,X,rfl,row,lq,Q,hX,_,_⟩ sm x3;have hL:X.length=S.g.parts.toNat:=by rw[Q,bk,rK]
 have C:=x3.hb J;have o:Ce h3 v q 29 64 X.length X.flatten:=row.frame fun _=>sm.get _
 have hq:h2.next<=q:=lq a_
 simp only[Aa,I,Ac,aB,aA,LI];have O:Ext h h3:=a.trans x3;have U:=O.at hb hA;have M3:Da h3 m S (fun i=>F i\/i=q):=(M.ext hb O).less fun j hj=>by
  rcases hj with hj|hj
  ·exact .inl hj
  ·subst hj
   have:=C _ _ (o.block a_);have:=a.next
   exact .inr ⟨a_,a_⟩
 refine(Bpd (K:=K) A hK t M3 C U (d:=e) a_).Am ?_;rintro _ h4 ⟨rfl,⟨D',M4,c4⟩,k4,aj⟩;simp only[Aa,I,Ac,aB,aA,LH];have H:=o.frame (h':=h4) fun y=>k4.get _ (C _ _ (o.block y)) fun w=>w (.inr rfl)
 rw[H.Ip];refine(A8g (K:=K) A hK t (d:=e) a_ hX a_ a_ a_ K 0 h4 _ a_ a_ M4 aj (k4.at C U (.inl fA)) (.inl fA) (.inr rfl) H c4).mono ?_;rintro _ h5 ⟨rfl,⟨D2,M5,c5⟩,k5,al⟩;exact⟨rfl,⟨D2,M5.less fun j hj=>.inl hj,c5.1,c5.2.trans Q⟩,((Ext.kf O).trans (k4.less fun j hj=>.inl hj)).trans (k5.less fun j hj=>.inl hj),al⟩
end
end
section
def hO(cur Bt:Nat->Int)(k:Nat):Nat->Int:=fun j=>if j<k then Bt j else cur j
theorem TN(cur Bt:Nat->Int)(k:Nat):Mn (hO cur Bt k) k (Bt k)=hO cur Bt (k+1):=by
 funext j;unfold Mn hO;by_cases h:j=k
 ·subst h;rw[aI rfl,aI (aN _)]
 ·rw[aG h]
  by_cases h2:j<k
  ·rw[aI h2,aI a_]
  ·rw[aG h2,aG a_]
theorem Bqq(cur Bt:Nat->Int)(k:Nat):Mn (Mn (hO Bt cur k) k (-1)) k (cur k)=hO Bt cur (k+1):=by
 have:Mn (Mn (hO Bt cur k) k (-1)) k (cur k)=Mn (hO Bt cur k) k (cur k):=by
  funext j;unfold Mn;split<;>rfl
 rw[this];exact TN Bt cur k
def ks(Bt:Nat->Int)(k:Nat):Nat->Prop:=fun z=>∃i,i<k/\z=(Bt i).toNat
theorem Dq.flush{W:Nat->Prop}(q:Dq S T W):T.dr.flush.2=0/\Dq S { T with dr:=T.dr.flush.1 } W:=by
 have hf:=tC q.ev q.up;rw[hf];exact⟨rfl,q.g,q.bad,q.ps,q.o,q.ev,q.up,q.hp,q.n,q.size,q.op,q.same,q.Ats⟩
section
variable (A:Bu disp)(hK:10000<K){ar m ml ll:Nat}{es:List Me}(fA:F ar)(fb:F b/\F ml/\F ll/\b≠ar/\ml≠ar/\ll≠ar){x y w:Int}
include A hK fA fb
theorem Bp1(hd:18<=d)(hR:iO x y w es=true)(u:i<3)(M:Da h m S F)(hb:HB h)(hA:h.get ar=some (.cells (arC m cur Bt) 124))(mp:Oh h b ml ll S.g es)(t:Tz S (Bt i))(nb:S.E8 (Bt i)=false):
 Ok (Ag TT disp K d false 94 [.ptr ar 0,I i,.agg [I x,I y,I w,.ptr b 0]] h) fun v h'=>v=.tuple [.bool true,I 0]/\(∃C,Da h' m { S with dr:=C } F/\(Dq S { S with dr:=C } fun k=>k=(Bt i).toNat)/\(C.dv.zs (Bt i).toNat).l=nu S.g es x y w (Bt i))/\h'.get ar=some (.cells (arC m (Mn cur i (Bt i)) (Mn (Mn Bt i (-1)) i (cur i))) 124)/\Av (fun j=>¬F j\/j=ar) h h'/\HB h':=by
 obtain⟨e,rfl⟩:=d_ d;rw[Ap9 A a_];simp only[ME,Aa];obtain⟨h1,e_,Q,g1,ai⟩:=nW h (.cells [I x,I y,I w,.ptr b 0] 137);rw[e_];have H:=Q.hb hb;have V:=Q.at hb hA;have M1:Da h1 m S (fun j=>F j\/j=h.next):=(M.ext hb Q).less fun j hj=>by
  rcases hj with hj|hj
  ·exact .inl hj
  ·exact .inr ⟨a_,a_⟩
 obtain⟨K',rfl⟩:=d_ K;rw[O4];have al:=Jb t.c.sm t.d;have ht:rQ S (Bt i) i=(Bt i,S):=by
  unfold rQ;rw[aI ⟨a_,nb⟩]
 refine(ZO (K:=K'+1) hK M1 H V (.inl fA) u (Y6 t.c.sm t.d)).Am ?_;rintro _ h2 ⟨rfl,M2,J,c2,O⟩;rw[ht]at M2⊢;have la:=hb _ _ hA;have a:Av (fun j=>¬F j\/j=ar) h h2:=(Ext.to Q).trans (c2.mono fun j hj=>hj.elim (fun y=>.inl fun w=>y (.inl w)) .inr);have g2:h2.get h.next=some (.cells [I x,I y,I w,.ptr b 0] 137):=c2.at H g1 fun w=>w.elim (fun w=>w (.inr rfl)) fun w=>a_
 simp only[I,Ac];rw[aL (show ¬Bt i = -1 from a_)];simp only[Aa,MD];rw[Cz g2 rfl,Ak (n:=4) rfl];simp only[Aa];have mT:Oh h2 b ml ll S.g es:=mp.frame (a.get _ (hb _ _ mp.map) fun w=>w.elim (fun w=>w fb.1) fb.2.2.2.1) (a.get _ (hb _ _ mp.row) fun w=>w.elim (fun w=>w fb.2.1) fb.2.2.2.2.1) (a.get _ (hb _ _ mp.live) fun w=>w.elim (fun w=>w fb.2.2.1) fb.2.2.2.2.2);have fl:=Br5 (K:=K'+1) A hK (z:=Bt i) M2 O J (.inl fA) t mT hR (d:=e) a_;simp only[I]at fl;refine fl.Am ?_;rintro _ h3 ⟨rfl,⟨C,M3,c3⟩,k3,P⟩;have o:=k3.at O J (.inl fA);have U:=P _ _ o;simp only[Ac,aC,Aa];rw[Vs u]
 try simp only[Aa]
 rw[dU,Hl U,Aj o rfl (CZ u)]
 try simp only[Aa,As]
 rw[Ay (l:=[.int .i64 (Bt i),I (cur i)]) rfl]
 try simp only[Aa,As]
 rw[Vs u]
 try simp only[Aa,As]
 rw[Hg];refine Ok.st (arC m (Mn cur i (Bt i)) (Mn (Mn Bt i (-1)) i (cur i))) o rfl rfl (xk u (Bt i) (cur i)) ?_;exact .ret ⟨rfl,⟨C,(M3.iI (T:=fun j=>j=ar) ((Av.refl (S:=fun j=>j=ar) _).Ar (.inl rfl) U _) fun j hj _=>.inl (hj▸fA)).less fun j hj=>.inl hj,c3⟩,Ae _ _ _,(a.trans (k3.mono fun j hj=>.inl fun w=>hj (.inl w))).Ar (.inl (.inr rfl)) U _,P.put U _⟩
theorem A57(hd:19<=d)(hR:iO x y w es=true){t:Nat}(ft:F t)(ta:t≠ar)(U:∀i,i<3->Tz S (Bt i)/\S.E8 (Bt i)=false/\Bq S.g (Bt i)=i)(aa:Idle S (ks Bt 3)):∀(f i:Nat) (h:Ab) (T:Mi),3-i<f->i<=3->Da h m T F->Dq S T (ks Bt i)->(∀j,j<i->(T.dr.dv.zs (Bt j).toNat).l=nu S.g es x y w (Bt j))->HB h->h.get ar=some (.cells (arC m (hO cur Bt i) (hO Bt cur i)) 124)->h.get t=some (.cells [I x,I y,I w,.ptr b 0] 137)->Oh h b ml ll S.g es ->
 Ok (Lg (Ag TT disp K d false) (Ag TT disp K d true) K f (.ptr ar 0) (.ptr t 0) (I i) (I i) h) fun v h'=>v=.tuple [I 3,I 0]/\(∃T,Da h' m T F/\Dq S T (ks Bt 3)/\∀j,j<3->(T.dr.dv.zs (Bt j).toNat).l=nu S.g es x y w (Bt j))/\h'.get ar=some (.cells (arC m (hO cur Bt 3) (hO Bt cur 3)) 124)/\Av (fun j=>¬F j\/j=ar) h h'/\HB h':=by
 intro f;induction f with
 | zero=>intro i h T hf;omega
 | succ f ih=>
  intro i h T hf hi M q hc hb hA gt mp;rw[Lg];simp only[I,Ac];by_cases u:i<3
  ·have:decide ((i:Int)<3)=true:=by simp;omega
   simp only[this,Aa,HY];rw[Cz gt rfl,Ak (n:=4) rfl];simp only[Aa];obtain⟨C,nb,di⟩:=U i u;have P:hO Bt cur i i=Bt i:=aG (bT _);have ec:hO cur Bt i i=cur i:=aG (bT _);have H:¬ks Bt i (Bt i).toNat:=fun⟨j,hj,e⟩=>by
    have dj:=(U j a_).2.2;have:=Kg C.c.sm (x:=Bt i) (y:=Bt j) a_ a_ e;rw[this,dj]at di;omega
   have tT:Tz T (Bt i):=⟨C.c.dq q fun z hz hw=>aa z hz (by obtain⟨j,hj,e⟩:=hw;exact⟨j,a_,e⟩),by rw[q.g];exact C.d,by rw[(q.same _ H).1,(q.same _ H).2];exact C.st⟩;have nT:T.E8 (Bt i)=false:=by unfold Mi.E8 at nb⊢;rw[q.g,q.bad];exact nb
   have J:=Bp1 (K:=K) A hK fA fb (d:=d) a_ hR u (Bt:=hO Bt cur i) M hb hA (by rw[q.g];exact mp) (by rw[P];exact tT) (by rw[P];exact nT);simp only[I]at J;refine J.Am ?_;rintro _ h2 ⟨rfl,⟨Q,M2,q2,y2⟩,O,c2,a⟩;rw[P,ec,TN,Bqq]at O;rw[P]at q2 y2;rw[q.g]at y2;simp only[Aa,Ac,aB,aA,HX,HW];rw[Ch];rw[show((i:Nat):Int)+1=((i+1:Nat):Int) from a_];have af:Oh h2 b ml ll S.g es:=mp.frame (c2.get _ (hb _ _ mp.map) fun w=>w.elim (fun w=>w fb.1) fb.2.2.2.1) (c2.get _ (hb _ _ mp.row) fun w=>w.elim (fun w=>w fb.2.1) fb.2.2.2.2.1) (c2.get _ (hb _ _ mp.live) fun w=>w.elim (fun w=>w fb.2.2.1) fb.2.2.2.2.2);have q3:Dq S { T with dr:=Q } (ks Bt (i+1)):=by
    have:=q.trans q2;refine⟨this.g,this.bad,this.ps,this.o,this.ev,this.up,this.hp,this.n,this.size,this.op,fun k hk=>this.same k fun y=>hk ?_,fun k hk hn=>this.Ats k ?_ hn⟩
    ·rcases y with⟨j,hj,e⟩|e
     ·exact⟨j,a_,e⟩
     ·exact⟨i,a_,e⟩
    ·obtain⟨j,hj,e⟩:=hk
     rcases b9.1 hj with y|y
     ·exact .inl ⟨j,y,e⟩
     ·subst y;exact .inr e
   have ah:∀j,j<i+1->(Q.dv.zs (Bt j).toNat).l=nu S.g es x y w (Bt j):=fun j hj=>by
    rcases b9.1 hj with y|rfl
    ·rw[show Q.dv.zs (Bt j).toNat=({ T with dr:=Q }:Mi).dr.dv.zs (Bt j).toNat from rfl,(q2.same _ fun e=>?_).1]
     ·exact hc j y
     ·have dj:=(U j a_).2.2
      have:=Kg C.c.sm (x:=Bt j) (y:=Bt i) a_ a_ e;rw[this]at dj;omega
    ·exact y2
   refine(ih (i+1) h2 _ a_ a_ M2 q3 ah a O (c2.at hb gt fun w=>w.elim (fun w=>w ft) ta) af).mono ?_;rintro _ h3 ⟨rfl,r1,r2,r3,r4⟩;exact⟨rfl,r1,r2,c2.trans r3,r4⟩
  ·have:i=3:=a_
   subst this;have:decide (((3:Nat):Int)<3)=false:=rfl;simp only[this,Aa,HV];rw[Aj hA rfl (v:=.ptr m 0) rfl];obtain⟨D,V,dr⟩:=nJ A hK M hb;rw[dr.D8];obtain⟨f1,f2⟩:=q.flush;refine(dr.flush (d:=d) a_).Am ?_;rintro _ h2 ⟨rfl,M2,k2,a⟩;rw[f1];simp only[I,Ac,aB,aA,Aa,HU];have e:decide (((3:Nat):Int)<2)=false:=rfl;simp only[e,Aa,HT];exact .ret ⟨rfl,⟨_,M2,f2,fun j hj=>by
    rw[tC q.ev q.up];exact hc j hj⟩,k2.at hb hA fA,k2.mono fun j hj=>.inl hj,a⟩
theorem Bpf(hd:20<=d)(hR:iO x y w es=true)(c:Calm S)(hT:∀i,i<3->Tz S (Bt i)/\S.E8 (Bt i)=false/\Bq S.g (Bt i)=i)(aa:Idle S (ks Bt 3))(M:Da h m S F)(hb:HB h)(hA:h.get ar=some (.cells (arC m cur Bt) 124))(mp:Oh h b ml ll S.g es):
 Ok (Ag TT disp K d false 62 [.ptr ar 0,.agg [I x,I y,I w,.ptr b 0]] h) fun v h'=>v=.tuple [I 3,I 0]/\(∃T,Da h' m T F/\Dq S T (ks Bt 3)/\∀j,j<3->(T.dr.dv.zs (Bt j).toNat).l=nu S.g es x y w (Bt j))/\h'.get ar=some (.cells (arC m (hO cur Bt 3) (hO Bt cur 3)) 124)/\Av (fun j=>¬F j\/j=ar) h h'/\HB h':=by
 obtain⟨e,rfl⟩:=d_ d;have s:=c.sm;rw[Apw A a_];simp only[H',Aa];obtain⟨h1,e_,O,V,aw⟩:=nW h (.cells [I x,I y,I w,.ptr b 0] 137);rw[e_];have o:=O.hb hb;have l1:=o _ _ V;have la:=o _ _ (O.at hb hA);rw[Hl l1,Cz V rfl,Ak (n:=4) rfl]
 try simp only[Aa,As]
 have C:=mp.frame (O.get _ (hb _ _ mp.map) id) (O.get _ (hb _ _ mp.row) id) (O.get _ (hb _ _ mp.live) id);refine Ok.bE ((B' (K:=K) A (d:=e) a_ a_ s (C.frame (Bx _ _) (Bx _ _) (Bx _ _)) (C8 o) x y w)) (fun _ _ p=>p.2.1) ?_;rintro _ ay h2 ⟨rfl,_⟩ _ H;have P:=H.hb o;rw[hR];have g2:=H.at o V;simp only[Aa,Ac,As];rw[Hl l1,Aj g2 rfl (v:=.ptr b 0) rfl]
 try simp only[Aa,As]
 have ab:=C.frame (H.get _ (o _ _ C.map) id) (H.get _ (o _ _ C.row) id) (H.get _ (o _ _ C.live) id);refine Ok.bE ((Ke (K:=K) (ab.frame (Bx _ _) (Bx _ _) (Bx _ _)) (C8 P)).mono fun _ _ a=>(⟨a.1,a.2.1⟩:_/\_)) (fun _ _ p=>p.2) ?_;rintro _ a0 h3 ⟨rfl,_⟩ _ x3;have Q:=x3.hb P;have J:Ext h h3:=(O.trans H).trans x3;have ae:=J.at hb hA
 try simp only[Aa,As]
 rw[Hl la,Aj ae rfl (v:=.ptr m 0) rfl]
 try simp only[Aa,As]
 have M3:=(M.ext hb J).less fun j (hj:F j)=>Or.inl hj
 refine Ok.bE (Sw (K:=K) (M3.same (iW.lift _)) (C8 Q)) (fun _ _ p=>p.2) ?_;rintro _ a3 h4 ⟨rfl,_⟩ _ x4;have ag:=x4.hb Q
 try simp only[Aa,As]
 rw[ZX];simp only[U0,Aa,HZ];have u:Ext h h4:=J.trans x4;have U:Ext h1 h4:=(H.trans x3).trans x4;have M4:Da h4 m S (fun j=>F j\/j=h.next):=(M.ext hb u).less fun j hj=>by
  rcases hj with hj|hj
  ·exact .inl hj
  ·have:=U.next
   exact .inr ⟨a_,a_⟩
 have lA:=hb _ _ hA;have ah:=mp.frame (u.get _ (hb _ _ mp.map) id) (u.get _ (hb _ _ mp.row) id) (u.get _ (hb _ _ mp.live) id);have q0:Dq S S (ks Bt 0):=⟨rfl,rfl,rfl,⟨rfl,rfl,rfl⟩,c.ev,c.up,rfl,rfl,rfl,rfl,fun _ _=>⟨rfl,rfl⟩,fun _ ⟨j,hj,_⟩=>a_⟩;refine(A57 (K:=K) (F:=fun j=>F j\/j=h.next) A hK (.inl fA) ⟨.inl fb.1,.inl fb.2.1,.inl fb.2.2.1,fb.2.2.2⟩ (d:=e) a_ hR (t:=h.next) (.inr rfl) a_ hT aa K 0 h4 S a_ a_ M4 q0 (fun j hj=>absurd hj (cC _)) ag (u.at hb hA) (U.at o V) ah).mono ?_;rintro _ h5 ⟨rfl,⟨T,M5,q5,y5⟩,ai,c5,aj⟩;exact⟨rfl,⟨T,M5.less fun i=>.inl,q5,y5⟩,ai,(Ext.to u).trans (c5.mono fun j hj=>hj.elim (fun y=>.inl fun z=>y (.inl z)) .inr),aj⟩
end
end
section
theorem TO(n:Nat):∀l:List Int,l.Nodup->(∀z∈l,0<=z/\z<n)->l.length<=cn (fun z=>decide ((z:Int)∈l)) n
 | [],_,_=>cS _
 | a::l,nd,u=>by
  obtain⟨C,H⟩:=cF.1 nd;have O:=TO n l H fun z J=>u z (aT _ J)
  have P:=u a (aW ..);have key:∀m:Nat,cn (fun z=>decide ((z:Int)∈l)) m+(if a<m then 1 else 0)<=cn (fun z=>decide ((z:Int)∈a::l)) m:=fun m=>by
   induction m with
   | zero=>unfold cn;rw[aG a_];exact aE _
   | succ m o=>
    unfold cn;by_cases h:(m:Int)=a
    ·rw[aG (show ¬decide ((m:Int)∈l)=true by rw[h];simpa using C),aI (show decide ((m:Int)∈a::l)=true by rw[h];simp),aI a_]
     rw[aG a_]at o;omega
    ·have e:(decide ((m:Int)∈a::l)=true)↔(decide ((m:Int)∈l)=true):=by simp[h]
     by_cases h2:decide ((m:Int)∈l)=true
     ·rw[aI h2,aI (e.2 h2)]
      split at o<;>split<;>omega
     ·rw[aG h2,aG fun y=>h2 (e.1 y)]
      split at o<;>split<;>omega
  have:=key n;rw[aI a_]at this;rw[bJ];omega
theorem TQ(s:Sm g){l:List Int}(nd:l.Nodup)(C:∀z∈l,Bq g z=d):l.length<=g.Z.toNat:=by
 have:=s.z0;have bd:=s.Uw
 let o:List Int:=(List.range g.Z.toNat).map fun(k:Nat)=>(d:Int)*g.Z+k
 have H:=TO (g.D*g.Z).toNat l nd fun z u=>by
  rcases I8 s z with y|⟨_,_,_,a,b⟩
  ·have:=C z u;omega
  ·exact⟨a,a_⟩
 have h2:cn (fun z=>decide ((z:Int)∈l)) (g.D*g.Z).toNat<=cn (fun z=>decide ((z:Int)∈o)) (g.D*g.Z).toNat:=vX _ fun z _ u=>by
  simp only[aS]at u⊢;have hd:=C _ u;rcases I8 s z with y|⟨_,_,e,a,b⟩
  ·omega
  ·refine dK.2 ⟨((z:Int)%g.Z).toNat,cm.2 ?_,?_⟩
   ·have:=gO (z:Int) (show 0<g.Z from a_)
    have:=fV (z:Int) (show g.Z≠0 from a_);omega
   ·have:=fV (z:Int) (show g.Z≠0 from a_)
    have:=Int.mul_ediv_add_emod (z:Int) g.Z;rw[<-hd,e,Int.mul_comm];omega
 have J:=lh (g.D*g.Z).toNat o;have h4:o.length=g.Z.toNat:=by simp[o]
 omega
theorem TR {z:Int}:∀{es:List Me},Ka es z=0->∀x∈es,x.state=1->¬x.Ai=z/\¬x.Aw=z
 | [],_,x,o,_=>by cases o
 | y::es,h,x,o,u=>by
  rw[Qa]at h;have a:=wF z y;have b:=(pW z es).1;rcases bX.1 o with rfl|o
  ·have:Wi z x=0:=a_
   unfold Wi at this;split at this
   ·omega
   next C=>
    exact⟨fun e=>C ⟨u,.inl e⟩,fun e=>C ⟨u,.inr e⟩⟩
  ·exact TR (es:=es) a_ x o u
section
variable{L:List (List Nat)}
theorem Yc {z:Int}:X.dead z=true↔X.closed z=true/\Zg X.S.g X.es z=0:=by
 unfold Co.dead;simp only[aV,aS]
theorem Cc.Bhr(C:Cc E X L mt){z:Int}(h:X.dead z=true):∀x∈X.es,x.state=1->¬x.Ai=z/\¬x.Aw=z:=by
 obtain⟨o,h2⟩:=Yc.1 h;have hd:=(El.1 o).1;refine TR ?_;unfold Zg at h2;rcases I8 C.c.sm z with y|⟨_,_,_,a,b⟩
 ·omega
 ·rw[aI ⟨a,b⟩]at h2;exact h2
theorem Cc.tz(C:Cc E X L mt){z:Int}(hd:0<=Bq X.S.g z)(u:¬z=X.S.a)(h2:¬z=X.S.b):Tz X.S z:=by
 obtain⟨a,o,_⟩:=Mu C.c hd;refine⟨C.c,hd,?_⟩;obtain⟨s1,s2⟩:=C.s2 _ o;rcases dQ 0 (X.S.dr.dv.zs z.toNat).st with y|y
 ·right
  rcases dQ 1 (X.S.dr.dv.zs z.toNat).st with w|w
  ·omega
  ·rcases C.c.few _ o a_ with v|v<;>omega
 ·exact .inl ⟨a_,s2 a_⟩
theorem Cc.Bk1(C:Cc E X L mt){z:Int}(h:X.closed z=true):Tz X.S z:=by
 obtain⟨a,b,c,_⟩:=El.1 h;exact C.tz a b c
theorem Cc.Bty(C:Cc E X L mt){z:Int}(h:X.closed z=true):Idle X.S fun i=>i=z.toNat:=fun w hw e=>by
 obtain⟨o,u,H,_,_,a⟩:=El.1 h;have:w=z:=Kg C.c.sm hw o e;subst this;refine⟨u,H,fun d hd hm=>?_⟩;rw[Jm.2 ⟨d,hd,hm⟩]at a;cases a
theorem Cc.Bug(C:Cc E X L mt){z:Int}(V:X.closed z=true)(hl:∀x∈X.es,x.state=1->¬x.Ai=z/\¬x.Aw=z)(he:(X.S.dr.dv.zs z.toNat).l = []/\(X.S.dr.dv.zs z.toNat).st=0):
 (Wv X.S.g X.S.g.D.toNat X.S.ps z).1=0/\X.S.iP z = { X.S with ps:=upd X.S.ps (Bq X.S.g z).toNat (X.S.ps (Bq X.S.g z).toNat++[z]) }/\Cc E { X with S:=X.S.iP z } L mt/\∀w,({ X with S:=X.S.iP z }:Co).closed w=(X.closed w&&!decide (w=z)):=by
 obtain⟨a1,a2,a3,a4,P,H⟩:=El.1 V;have s:=C.c.sm;obtain⟨b1,b2⟩:Bq X.S.g z<X.S.g.D/\0<=X.S.g.D:=by
  rcases I8 s z with y|⟨_,y,_⟩
  ·omega
  ·have:=s.d0;exact⟨y,a_⟩
 have hd:(Bq X.S.g z).toNat<X.S.g.D.toNat:=a_
 have nd:=C.c.nd _ hd;have nm:∀d,d<X.S.g.D.toNat->z ∉ X.S.ps d:=fun d hd hm=>by rw[Jm.2 ⟨d,hd,hm⟩]at H;cases H
 have u:(X.S.ps (Bq X.S.g z).toNat++[z]).Nodup:=by
  rw[List.nodup_append];refine⟨nd,by simp,fun a ha b hb y=>?_⟩;rw[aP.1 hb]at y;subst y;exact nm _ hd ha
 have len:(X.S.ps (Bq X.S.g z).toNat).length<X.S.g.Z.toNat:=by
  have:=TQ s (d:=(Bq X.S.g z).toNat) u fun w hw=>by
   rcases bN.1 hw with y|y
   ·exact(C.c.wf.ps _ hd w y).1
   ·rw[aP.1 y];omega
  rw[aF]at this;exact this
 have hg:Wv X.S.g X.S.g.D.toNat X.S.ps z=(0,upd X.S.ps (Bq X.S.g z).toNat (X.S.ps (Bq X.S.g z).toNat++[z])):=by
  unfold Wv;rw[aG a_,H,aG c_,aI len]
 have hS:X.S.iP z = { X.S with ps:=upd X.S.ps (Bq X.S.g z).toNat (X.S.ps (Bq X.S.g z).toNat++[z]) }:=by
  unfold Mi.iP;rw[hg]
 have mem:∀d w,w∈upd X.S.ps (Bq X.S.g z).toNat (X.S.ps (Bq X.S.g z).toNat++[z]) d->w∈X.S.ps d\/(w=z/\d=(Bq X.S.g z).toNat):=fun d w hw=>by
  unfold upd at hw;split at hw
  next e=>
   subst e;rcases bN.1 hw with y|y
   ·exact .inl y
   ·exact .inr ⟨aP.1 y,rfl⟩
  ·exact .inl hw
 have o:∀w,({ X with S:=X.S.iP z }:Co).closed w=(X.closed w&&!decide (w=z)):=fun w=>by
  have hb:hasB (upd X.S.ps (Bq X.S.g z).toNat (X.S.ps (Bq X.S.g z).toNat++[z])) X.S.g.D.toNat w=(hasB X.S.ps X.S.g.D.toNat w||decide (w=z)):=by
   rw[eR,dY,aS,Jm,Jm];constructor
   ·rintro⟨d,hd,hm⟩
    rcases mem d w hm with y|y
    ·exact .inl ⟨d,hd,y⟩
    ·exact .inr y.1
   ·rintro(⟨d,J,hm⟩|rfl)
    ·refine⟨d,J,?_⟩
     unfold upd;split
     next e=>subst e;exact bN.2 (.inl hm)
     ·exact hm
    ·refine⟨_,hd,?_⟩
     unfold upd;rw[aI rfl];simp
  rw[hS];unfold Co.closed;show(_&&(_&&(_&&(_&&(_&&!hasB (upd _ _ _) _ w)))))=_;rw[hb];cases decide (w=z)<;>simp[Mi.E8]
 refine⟨by rw[hg],hS,?_,o⟩;have c':Calm (X.S.iP z):=by
  rw[hS];refine⟨{ toWp:=⟨C.c.wf.sm,fun d hd w hw=>?_⟩,op:=C.c.wf.op },C.c.rt,C.c.ev,C.c.up,C.c.n,C.c.size,C.c.op,C.c.bad,fun d hd=>?_,fun d hd w hw=>?_,?_,C.c.few⟩
  ·rcases mem d w hw with y|⟨rfl,y⟩
   ·exact C.c.wf.ps d hd w y
   ·exact⟨by show Bq X.S.g w=d;omega,C.c.bad _⟩
  ·show(upd X.S.ps _ _ d).Nodup
   unfold upd;split
   ·exact u
   ·exact C.c.nd d hd
  ·rcases mem d w hw with y|⟨rfl,y⟩
   ·exact C.c.fr d hd w y
   ·exact he
  ·rcases C.c.opn with y|⟨y1,y2,y3,y4,y5,Q,y7⟩
   ·exact .inl y
   ·refine .inr ⟨y1,y2,y3,y4,y5,fun d hd=>⟨fun hm=>?_,fun hm=>?_⟩,y7⟩
    ·rcases mem d _ hm with w|w
     ·exact(Q d hd).1 w
     ·exact a2 w.1.symm
    ·rcases mem d _ hm with w|w
     ·exact(Q d hd).2 w
     ·exact a3 w.1.symm
 refine⟨c',C.un,by rw[hS];exact C.ar,fun w hw=>?_,by rw[hS];exact C.s2,by rw[hS];exact C.opm,C.len,by rw[hS];exact C.lb,fun b x bs U O=>?_,C.sq,C.nm,by rw[hS];exact C.hd⟩
 ·have hw:arB X w:=hw
  obtain⟨r1,r2,r3,r4⟩:=C.arz w hw;rw[hS];refine⟨r1,r2,fun d hd hm=>?_,r4⟩;rcases mem d w hm with y|y
  ·exact r3 d hd y
  ·rw[y.1]at hw
   rw[(C.Vx z).2 hw]at P;cases P
 ·rcases C.Av4 b x bs U O with y|y
  ·exact .inl y
  ·obtain⟨n1,n2⟩:=hl x (bh U) y.st
   refine .inr ⟨y.st,by rw[hS];exact y.ok,?_,y.m1,y.m2,?_⟩
   ·rw[hS];exact y.rc.F1 id (fun _ h=>h) fun _ h=>h
   ·rw[o,o]
    rcases y.wh with w|w
    ·left;rw[hS];exact w
    ·right
     rw[w.1,w.2,aL n1,aL n2];exact⟨rfl,rfl⟩
end
end
section
structure Kc(X Y:Co):Prop where
 es:Y.es=X.es
 nm:Y.gen=X.gen/\Y.ep=X.ep/\Y.nx=X.nx/\Y.st=X.st
 g:Y.S.g=X.S.g
 o:Y.S.a=X.S.a/\Y.S.b=X.S.b/\Y.S.u=X.S.u
theorem Kc.refl(X:Co):Kc X X:=⟨rfl,⟨rfl,rfl,rfl,rfl⟩,rfl,rfl,rfl,rfl⟩
theorem Kc.trans(a:Kc X Y)(b:Kc Y Z):Kc X Z:=⟨b.es.trans a.es,⟨b.nm.1.trans a.nm.1,b.nm.2.1.trans a.nm.2.1,b.nm.2.2.1.trans a.nm.2.2.1,b.nm.2.2.2.trans a.nm.2.2.2⟩,b.g.trans a.g,b.o.1.trans a.o.1,b.o.2.1.trans a.o.2.1,b.o.2.2.trans a.o.2.2⟩
structure vZ(X Y:Co)(i:Int):Prop where
 k:Kc X Y
 cl:∀z,Y.closed z=(X.closed z&&!(X.dead z&&decide (z<i)))
 fr:∀z,X.dead z=true->z<i->z∈Y.S.ps (Bq X.S.g z).toNat
 pre:∀d,∃ex,Y.S.ps d=X.S.ps d++ex
theorem Kc.dead(k:Kc X Y)(z:Int):Y.dead z=(Y.closed z&&decide (Zg X.S.g X.es z=0)):=by unfold Co.dead;rw[k.es,k.g]
section
variable (A:Bu disp)(hK:10000<K){L:List (List Nat)}
include A hK
theorem Biy(C:Cx h B X F)(c:Cc E X L mt){z:Int}(hz:X.dead z=true)(hd:19<=d):Ok (Ag TT disp K d false 65 [.ptr B.c 0,I z] h) fun v h'=>v=I 0/\∃Y,E1 h h' B X F Y/\Cc E Y L mt/\Kc X Y/\(∀w,Y.closed w=(X.closed w&&!decide (w=z)))/\Y.S.ps=upd X.S.ps (Bq X.S.g z).toNat (X.S.ps (Bq X.S.g z).toNat++[z]):=by
 obtain⟨e,rfl⟩:=d_ d;have o:=(Yc.1 hz).1;have t:=c.Bk1 o;have rz:=Y6 c.c.sm t.d;have hl:=c.Bhr hz;rw[Aop A a_];simp only[HG,Aa];rw[C.iA];obtain⟨D,V,dr⟩:=nJ A hK C.M C.hb;rw[dr.D8];refine Ok.Am (dr.reset (d:=e) a_ z (by rw[(rM X.S.dr z).size];exact C.wf.sz)) ?_;rintro v h2 ⟨rfl,M2,k2,H⟩;have c2:=C.H5 M2 k2 H (rS (ZI _ z));obtain⟨r1,u⟩:=TK t;rw[r1];have q:=TM t u (.inr rfl);have lv:∀x∈X.es,x.state=1->¬x.Ai.toNat=z.toNat/\¬x.Aw.toNat=z.toNat:=fun x hx J=>by
  obtain⟨n1,n2⟩:=hl x hx J;obtain⟨b,hb⟩:=eH.1 hx;have O:b<L.length:=by rw[c.len];exact(aY.1 hb).1
  rcases c.Av4 b x _ hb (aD O)with w|w
  ·rw[w.1]at J;cases J
  ·obtain⟨z1,z2⟩:=w.jC
   exact⟨fun y=>n1 (Kg c.c.sm z1 t.d y),fun y=>n2 (Kg c.c.sm z2 t.d y)⟩
 have P:=c.dq q (c.Bty o) lv fun i hi y=>by
  have e:=Kg c.c.sm (by have:=(c.ar i hi).1;omega) t.d y;have:=(El.1 o).2.2.2.2.1;rw[(c.Vx z).2 ⟨i,hi,.inl e.symm⟩]at this;cases this
 have e0:(u.here.1:_)=u.here.1:=rfl;have he:((X.S.dr.reset z).1.dv.zs z.toNat).l = []/\((X.S.dr.reset z).1.dv.zs z.toNat).st=0:=by
  obtain⟨a,b⟩:=u.here;have:=t.pos;rw[aG (by show ¬0=_;omega),aI (show([]:List (List EV)).length=0 from rfl)]at b;exact⟨a,b⟩
 simp only[I,Ac,aC,Aa];rw[c2.C.iA];have Q:({ X with S:={ X.S with dr:=(X.S.dr.reset z).1 } }:Co).closed z=true:=by rw[Q9 q];exact o
 obtain⟨g1,g2,g3,g4⟩:=P.Bug Q hl he;obtain⟨p,e1,e2⟩:=TS c2.C.M c2.C.hb A hK;rw[e1,Au];refine Ok.Am (e2 (d:=e) a_ rz fun _=>c.c.bad _) ?_;rintro v h3 ⟨rfl,M3,k3,U⟩;rw[show(Wv ({ X with S:={ X.S with dr:=(X.S.dr.reset z).1 } }:Co).S.g ({ X with S:={ X.S with dr:=(X.S.dr.reset z).1 } }:Co).S.g.D.toNat ({ X with S:={ X.S with dr:=(X.S.dr.reset z).1 } }:Co).S.ps z).1=0 from g1];have c3:=c2.trans (c2.C.H5 M3 k3 U (Χ _ _));refine .ret ⟨rfl,_,c3,g3,⟨rfl,⟨rfl,rfl,rfl,rfl⟩,rfl,rfl,rfl,rfl⟩,fun w=>?_,?_⟩
 ·have:=g4 w
  rw[Q9 q]at this;exact this
 ·show(({ X.S with dr:=(X.S.dr.reset z).1 }:Mi).iP z).ps=_
  rw[g2]
theorem A6b(hn:X.S.g.D*X.S.g.Z=n)(hd:19<=d)(U:Sm X.S.g):∀(f i:Nat) (O:Ab) (Y:Co),n-i<f->i<=n->E1 h O B X F Y->Cc E Y L mt->vZ X Y i ->
 Ok (Ga (Ag TT disp K d false) (Ag TT disp K d true) K f (.ptr B.c 0) (I n) (I i) O) fun v h'=>v=I 0/\∃Z,E1 h h' B X F Z/\Cc E Z L mt/\vZ X Z n:=by
 intro f;induction f with
 | zero=>intro i O Y hf;omega
 | succ f V=>
  intro i O Y hf hi c1 Q r;have bd:=U.Uw;rw[Ga];simp only[I,Ac];by_cases aa:i<n
  ·have:decide ((i:Int)<(n:Int))=true:=by simp;omega
   simp only[this,Aa,Wq];refine Ok.Am (EG A hK c1.C (d:=d) a_ (z:=i) ⟨a_,a_⟩) ?_;rintro v h2 ⟨rfl,r2⟩;have c2:=c1.trans (c1.C.rd r2);have nx:∀o Z,E1 h o B X F Z->Cc E Z L mt->vZ X Z (i+1:Nat)->Ok (Kx (Ag TT disp K d false) (Ag TT disp K d true) K (Ga (Ag TT disp K d false) (Ag TT disp K d true) K f) (.ptr B.c 0) (.int .i64 (n:Int)) (.int .i64 (i:Int)) o) fun v h'=>v=I 0/\∃Z,E1 h h' B X F Z/\Cc E Z L mt/\vZ X Z n:=fun o Z c3 a r3=>by
    simp only[Kx,Ac];rw[Ch,show((i:Nat):Int)+1=((i+1:Nat):Int) from a_];exact V (i+1) o Z a_ a_ c3 a r3
   have u:Y.dead i=X.dead i:=by
    rw[r.k.dead,r.cl,aL (show ¬(i:Int)<i from a_)];unfold Co.dead;simp
   rw[u];cases P:X.dead i with
   | false=>
    simp only[Aa];refine nx _ _ c2 Q ⟨r.k,fun z=>?_,fun z H hl=>?_,r.pre⟩
    ·rw[r.cl]
     by_cases e:z=i
     ·subst e;rw[P];simp
     ·have:decide (z<(i:Int))=decide (z<((i+1:Nat):Int)):=by rw[eJ];omega
      rw[this]
    ·by_cases e:z=i
     ·subst e;rw[P]at H;cases H
     ·exact r.fr z H a_
   | true=>
    simp only[Aa,W9];refine Ok.Am (Biy A hK c2.C Q (z:=i) (by rw[u];exact P) hd) ?_;rintro _ o ⟨rfl,Z,c3,a,k3,K6,J⟩;simp only[I,Ac,aB,aA,Aa];refine nx _ _ (c2.trans c3) a ⟨r.k.trans k3,fun z=>?_,fun z H hl=>?_,fun d=>?_⟩
    ·rw[K6,r.cl]
     by_cases e:z=i
     ·subst e;rw[P,aO (show((i:Nat):Int)<((i+1:Nat):Int) from a_)];simp
     ·have:decide (z<(i:Int))=decide (z<((i+1:Nat):Int)):=by rw[eJ];omega
      rw[this,aL e];simp
    ·rw[J,r.k.g]
     by_cases e:z=i
     ·subst e
      unfold upd;rw[aI rfl];simp
     ·have:=r.fr z H a_
      unfold upd;split
      next e2=>rw[<-e2];exact bN.2 (.inl this)
      ·exact this
    ·obtain⟨ex,he⟩:=r.pre d
     rw[J];unfold upd;split
     next e2=>subst e2;rw[he];exact⟨ex++[(i:Int)],by rw[bZ]⟩
     ·exact⟨ex,he⟩
  ·have:i=n:=a_
   subst this;have:decide ((i:Int)<(i:Int))=false:=by simp
   simp only[this,Aa,Wz];exact .ret ⟨rfl,Y,c1,Q,r⟩
end
theorem Cc.swap{L:List (List Nat)}(C:Cc E X L mt)(hd:∀i,i<3->Bd7 X.S (X.gen+1) (X.Bt i)):Cc E { X with gen:=X.gen+1,cur:=hO X.cur X.Bt 3,Bt:=hO X.Bt X.cur 3 } L mt/\∀z,({ X with gen:=X.gen+1,cur:=hO X.cur X.Bt 3,Bt:=hO X.Bt X.cur 3 }:Co).closed z=X.closed z:=by
 have e:∀(f k:Nat->Int) i,i<3->hO f k 3 i=k i:=fun f k i o=>aI o
 have ar:∀z,arB { X with gen:=X.gen+1,cur:=hO X.cur X.Bt 3,Bt:=hO X.Bt X.cur 3 } z↔arB X z:=fun z=>by
  constructor
  ·rintro⟨i,o,h⟩
   refine⟨i,o,?_⟩;have h:z=hO X.cur X.Bt 3 i\/z=hO X.Bt X.cur 3 i:=h;rw[e _ _ _ o,e _ _ _ o]at h;exact h.symm
  ·rintro⟨i,o,h⟩
   refine⟨i,o,?_⟩;show z=hO X.cur X.Bt 3 i\/z=hO X.Bt X.cur 3 i;rw[e _ _ _ o,e _ _ _ o];exact h.symm
 have u:∀z,Go.Ev.Vx (hO X.cur X.Bt 3) (hO X.Bt X.cur 3) z=Go.Ev.Vx X.cur X.Bt z:=fun z=>by
  rw[eR,vY,vY];constructor
  ·rintro⟨i,o,h⟩
   rw[e _ _ _ o,e _ _ _ o]at h;exact⟨i,o,h.symm⟩
  ·rintro⟨i,o,h⟩
   refine⟨i,o,?_⟩;rw[e _ _ _ o,e _ _ _ o];exact h.symm
 have cl:∀z,({ X with gen:=X.gen+1,cur:=hO X.cur X.Bt 3,Bt:=hO X.Bt X.cur 3 }:Co).closed z=X.closed z:=fun z=>by
  unfold Co.closed;simp only[u]
 refine⟨⟨C.c,C.un,fun i o=>?_,fun z H=>C.arz z ((ar z).1 H),C.s2,C.opm,C.len,C.lb,fun b x bs J O=>?_,C.sq,⟨by show 0<=X.gen+1;have:=C.nm.1;omega,C.nm.2⟩,.inr fun i o=>by show Bd7 X.S (X.gen+1) (hO X.cur X.Bt 3 i);rw[e _ _ _ o];exact hd i o⟩,cl⟩
 ·obtain⟨a,b,c⟩:=C.ar i o
  show Bq X.S.g (hO X.cur X.Bt 3 i)=i/\Bq X.S.g (hO X.Bt X.cur 3 i)=i/\¬hO X.cur X.Bt 3 i=hO X.Bt X.cur 3 i;rw[e _ _ _ o,e _ _ _ o];exact⟨b,a,fun y=>c y.symm⟩
 ·rcases C.Av4 b x bs J O with y|y
  ·exact .inl y
  ·exact .inr ⟨y.st,y.ok,y.rc,y.m1,y.m2,by rw[cl,cl];exact y.wh⟩
end
section
structure lj(X Y:Co):Prop where
 es:Y.es=X.es
 nm:Y.gen=X.gen+1/\Y.ep=X.ep/\Y.nx=X.nx/\Y.st=X.st
 g:Y.S.g=X.S.g
 o:Y.S.a=X.S.a/\Y.S.b=X.S.b/\Y.S.u=X.S.u
 cl:∀z,Y.closed z=(X.closed z&&!X.dead z)
 fr:∀z,X.dead z=true->z∈Y.S.ps (Bq X.S.g z).toNat
 pre:∀d,∃ex,Y.S.ps d=X.S.ps d++ex
theorem lj.dead(c:lj X Y)(z:Int):Y.dead z=false:=by
 have h:=c.cl z;unfold Co.dead at h⊢;rw[h,c.es,c.g];cases X.closed z<;>cases decide (Zg X.S.g X.es z=0)<;>rfl
theorem Br2{L:List (List Nat)}(C:Cc E X L mt)(u:X.gen<281474976710655)(h2:X.nx<=281474976710655):iO (X.gen+1) X.ep X.nx X.es=true:=by
 obtain⟨a,b,c⟩:=C.nm;have l:nE X.nx X.es=false:=by
  unfold nE;rw[List.any_eq_false];intro x o;have:=C.sq x o;simp only[aS];omega
 unfold iO;rw[l,b];simp only[aV,aS,dI];exact⟨⟨a_,a_⟩,⟨a_,a_⟩,⟨a_,a_⟩,trivial⟩
section
variable (A:Bu disp)(hK:10000<K){L:List (List Nat)}
include A hK
theorem zB(C:Cx h B X F)(c:Cc E X L mt)(hg:X.gen<281474976710655)(hx:X.nx<=281474976710655)(hd:21<=d:=by omega):Ok (Ag TT disp K d false 30 [.ptr B.c 0] h) fun v h'=>v=I 0/\∃Y,E1 h h' B X F Y/\Cc E Y L mt/\lj X Y:=by
 obtain⟨e,rfl⟩:=d_ d;rw[Aj4 A a_];simp only[JR,Aa];rw[C.iA];obtain⟨D,V,dr⟩:=nJ A hK C.M C.hb;rw[dr.D8];have hf:=tC c.c.ev c.c.up;refine Ok.Am (dr.flush (d:=e) a_) ?_;rintro v h1 ⟨rfl,M1,kf,bj⟩;have c1:=C.H5 M1 kf bj (rS (uf _));have q1:Dq X.S { X.S with dr:=X.S.dr.flush.1 } fun _=>False:=by rw[hf];exact Dq.Sa c.c
 have aa:=c.dq q1 (fun _ _ y=>y.elim) (fun _ _ _=>⟨id,id⟩) fun _ _=>id
 rw[hf];rw[hf]at c1 aa q1;have k1:Kc X { X with S:={ X.S with dr:=X.S.Sa.dr } }:=⟨rfl,⟨rfl,rfl,rfl,rfl⟩,rfl,rfl,rfl,rfl⟩;have l1:∀z,({ X with S:={ X.S with dr:=X.S.Sa.dr } }:Co).closed z=X.closed z:=Q9 q1;have p1:({ X with S:={ X.S with dr:=X.S.Sa.dr } }:Co).S.ps=X.S.ps:=rfl;have aj:({ X with S:={ X.S with dr:=X.S.Sa.dr } }:Co).gen=X.gen:=rfl;simp only at c1 aa;generalize ({ X with S:={ X.S with dr:=X.S.Sa.dr } }:Co)=J at c1 aa k1 l1 p1 aj;simp only[Ac,aB,aA,Aa,Wm];rw[c1.C.DU];simp only[I,Ac];rw[Ch (by have:=aa.nm.1;omega)];have lc:=c1.hb _ _ c1.C.core;refine Ok.hM c1.C.core rfl rfl (by show 3<7;decide) ?_;have c2:=c1.trans (c1.C.xr (J.gen+1) J.ep J.nx J.st);have e2:(J.cells B).set 3 (.int .i64 (J.gen+1))=({ J with gen:=J.gen+1,ep:=J.ep,nx:=J.nx,st:=J.st }:Co).cells B:=rfl;rw[e2];have hR:iO (J.gen+1) J.ep J.nx J.es=true:=Br2 aa (by rw[aj];exact hg) (by rw[k1.nm.2.2.1];exact hx);have k2:({ J with gen:=J.gen+1,ep:=J.ep,nx:=J.nx,st:=J.st }:Co).es=X.es/\(J.gen+1=X.gen+1/\J.ep=X.ep/\J.nx=X.nx/\J.st=X.st)/\J.S.g=X.S.g/\(J.S.a=X.S.a/\J.S.b=X.S.b/\J.S.u=X.S.u)/\(∀z,({ J with gen:=J.gen+1,ep:=J.ep,nx:=J.nx,st:=J.st }:Co).closed z=X.closed z)/\J.S.ps=X.S.ps:=⟨k1.es,⟨by rw[aj],k1.nm.2.1,k1.nm.2.2.1,k1.nm.2.2.2⟩,k1.g,k1.o,l1,p1⟩;have eY:∀H:Co,H = { J with gen:=J.gen+1,ep:=J.ep,nx:=J.nx,st:=J.st }->iO H.gen H.ep H.nx H.es=true/\H.es=X.es/\(H.gen=X.gen+1/\H.ep=X.ep/\H.nx=X.nx/\H.st=X.st)/\H.S.g=X.S.g/\(H.S.a=X.S.a/\H.S.b=X.S.b/\H.S.u=X.S.u)/\(∀z,H.closed z=X.closed z)/\H.S.ps=X.S.ps/\H.gen=J.gen+1/\Cc E { H with gen:=J.gen } L mt:=fun H h=>by subst h;exact⟨hR,k2.1,k2.2.1,k2.2.2.1,k2.2.2.2.1,k2.2.2.2.2.1,k2.2.2.2.2.2,rfl,aa⟩
 have aw:=eY _ rfl;generalize ({ J with gen:=J.gen+1,ep:=J.ep,nx:=J.nx,st:=J.st }:Co)=H at c2 aw⊢;generalize h1.put B.c (.cells (H.cells B) 91)=h2 at c2⊢;obtain⟨ax,bp,bq,g2,o2,l2,p2,al,O⟩:=aw;have ao:Sm H.S.g:=O.c.sm;have Q:∀i,i<3->Bq H.S.g (H.cur i)=i/\Bq H.S.g (H.Bt i)=i/\¬H.cur i=H.Bt i:=O.ar;have ae:∀z,arB H z->¬z=H.S.a/\¬z=H.S.b/\(∀d,d<H.S.g.D.toNat->z ∉ H.S.ps d)/\¬(H.S.dr.dv.zs z.toNat).st=1:=O.arz;have af:=c2.hb _ _ c2.C.core;rw[Hl af,c2.C.Hl];simp only[Aa,As];rw[Hl af,c2.C.DU];simp only[Aa,As];rw[Hl af,c2.C.xt];simp only[Aa,As];rw[Hl af,c2.C.lu];simp only[Aa,As];rw[Hl af,c2.C.jc];simp only[Aa,As];rw[Ay (l:=[I H.gen,I H.ep,I H.nx,.ptr B.b 0]) rfl];obtain⟨n1,n2,n3,n4,n5,n6,n7,n8,n9,c6⟩:=c2.C.ne;have C2:=c2.C.lift;have hT:∀i,i<3->Tz H.S (H.Bt i)/\H.S.E8 (H.Bt i)=false/\Bq H.S.g (H.Bt i)=i:=fun i P=>by
  obtain⟨_,b,_⟩:=Q i P;obtain⟨a1,a2,_⟩:=ae _ ⟨i,P,.inr rfl⟩;exact⟨O.tz (show 0<=Bq H.S.g (H.Bt i) from a_) a1 a2,O.E8 _,b⟩
 have az:Idle H.S (ks H.Bt 3):=fun z U ⟨i,P,ei⟩=>by
  obtain⟨_,b,_⟩:=Q i P;have:z=H.Bt i:=Kg ao U a_ ei;obtain⟨a1,a2,a3,_⟩:=ae z ⟨i,P,.inr this⟩;exact⟨a1,a2,a3⟩
 have wr:=Bpf (K:=K) A hK (ar:=B.ar) (m:=B.m) (b:=B.b) (ml:=B.ml) (ll:=B.ll) (F:=B.fr F) (es:=H.es) (.inr (.inr (.inl rfl))) ⟨.inr (.inr (.inr (.inl rfl))),.inr (.inr (.inr (.inr (.inl rfl)))),.inr (.inr (.inr (.inr (.inr rfl)))),n5.symm,n6.symm,n7.symm⟩ (x:=H.gen) (y:=H.ep) (w:=H.nx) (d:=e) a_ ax O.c hT az C2.M C2.hb C2.ar C2.map;refine Ok.bC (S:=fun j=>¬B.fr F j\/j=B.ar) wr (fun _ _ p=>p.2.2.2.1) ?_;rintro _ c8 h3 s' ⟨rfl,⟨T,M3,q3,x3⟩,A3,_,bx⟩ sm ch df;have bz:Bhq T (hO H.cur H.Bt 3) (hO H.Bt H.cur 3):=by
  refine⟨fun i P=>.inr ?_,fun i P=>.inr ?_⟩
  ·rw[show hO H.cur H.Bt 3 i=H.Bt i from aI P,q3.g];exact(Q i P).2.1
  ·rw[show hO H.Bt H.cur 3 i=H.cur i from aI P,q3.g];exact(Q i P).1
 have c3:=c2.trans (c2.C.Z' (M3.same sm) (by rw[sm.get];exact A3) ch (sm.hb bx) (q3.mk' O.c) bz);have lv:∀x∈H.es,x.state=1->¬ks H.Bt 3 x.Ai.toNat/\¬ks H.Bt 3 x.Aw.toNat:=fun x hx h1=>by
  obtain⟨b,hb⟩:=eH.1 hx;have b5:b<L.length:=by rw[O.len];exact(aY.1 hb).1
  rcases O.Av4 b x _ hb (aD b5)with w|w
  ·rw[w.1]at h1;cases h1
  ·obtain⟨z1,z2⟩:=w.jC
   have no:∀z,0<=Bq H.S.g z->(z=H.S.a\/z=H.S.b\/H.closed z=true)->¬ks H.Bt 3 z.toNat:=fun z U hw ⟨i,P,ei⟩=>by
    obtain⟨_,bb,_⟩:=Q i P;have e':z=H.Bt i:=Kg ao U a_ ei;obtain⟨a1,a2,_⟩:=ae z ⟨i,P,.inr e'⟩;rcases hw with w|w|w
    ·exact a1 w
    ·exact a2 w
    ·have:=(El.1 w).2.2.2.2.1
     rw[(O.Vx z).2 ⟨i,P,.inr e'⟩]at this;cases this
   rcases w.wh with⟨w1,w2⟩|⟨w1,w2⟩
   ·exact⟨no _ z1 (.inl w1),no _ z2 (.inr (.inl w2))⟩
   ·exact⟨no _ z1 (.inr (.inr w1)),no _ z2 (.inr (.inr w2))⟩
 have ha:∀i,i<3->¬ks H.Bt 3 (H.cur i).toNat:=fun i P ⟨j,hj,e⟩=>by
  obtain⟨a1,_,a3⟩:=Q i P;obtain⟨_,b2,_⟩:=Q j hj;have e':H.cur i=H.Bt j:=Kg ao a_ a_ e;have:i=j:=by rw[e']at a1;omega
  subst this;exact a3 e'
 have a0:=O.nm.2.1;obtain⟨b6,l3⟩:=(O.dq q3 az lv ha).swap fun i P=>⟨H.es,H.nx,by show iO (J.gen+1) 1 H.nx H.es=true;rw[<-al,<-a0];exact ax,by show ∀x∈H.es,meR T.g x=true;rw[q3.g];exact c2.C.map.ok,by show H.es.length=T.g.B.toNat;rw[q3.g];exact c2.C.map.len,by show _=nu T.g H.es (J.gen+1) 1 H.nx (H.Bt i);rw[q3.g,<-al,<-a0];exact x3 i P⟩
 have b7:∀z,({ H with S:=T,cur:=hO H.cur H.Bt 3,Bt:=hO H.Bt H.cur 3 }:Co).closed z=X.closed z:=fun z=>(l3 z).trans ((Q9 q3 z).trans (l2 z))
 have g3:T.g=X.S.g:=q3.g.trans g2;have o3:T.a=X.S.a/\T.b=X.S.b/\T.u=X.S.u:=⟨q3.o.1.trans o2.1,q3.o.2.1.trans o2.2.1,q3.o.2.2.trans o2.2.2⟩;have p3:T.ps=X.S.ps:=q3.ps.trans p2;simp only[Aa,I,Ac,aB,aA,W6];have ai:Cc E ({ H with S:=T,cur:=hO H.cur H.Bt 3,Bt:=hO H.Bt H.cur 3 }:Co) L mt:=by
  have:Cc E ({ H with S:=T,gen:=J.gen+1,cur:=hO H.cur H.Bt 3,Bt:=hO H.Bt H.cur 3 }:Co) L mt:=b6;rw[<-al]at this;exact this
 have eZ:∀Z:Co,Z = { H with S:=T,cur:=hO H.cur H.Bt 3,Bt:=hO H.Bt H.cur 3 }->Z.es=X.es/\(Z.gen=X.gen+1/\Z.ep=X.ep/\Z.nx=X.nx/\Z.st=X.st)/\Z.S.g=X.S.g/\(Z.S.a=X.S.a/\Z.S.b=X.S.b/\Z.S.u=X.S.u)/\(∀z,Z.closed z=X.closed z)/\Z.S.ps=X.S.ps:=fun Z h=>by subst h;exact⟨bp,bq,g3,o3,b7,p3⟩
 have a4:=eZ _ rfl;generalize ({ H with S:=T,cur:=hO H.cur H.Bt 3,Bt:=hO H.Bt H.cur 3 }:Co)=Z at c3 ai a4;obtain⟨a5,ag,gZ,oZ,lZ,pZ⟩:=a4;rw[c3.C.iA];refine r7 A c3.C fun h4 x4=>?_
 have c4:=c3.C.Xe x4;have bd:=C.sm.Uw;obtain⟨n,hn⟩:=av (show 0<=X.S.g.D*X.S.g.Z from a_);rw[gZ,hn];have dx:=c3.trans c4;refine(A6b (X:=Z) A hK (by rw[gZ];exact hn) (d:=e) a_ c3.C.sm K 0 h4 Z a_ a_ c4 ai ⟨Kc.refl Z,fun z=>?_,fun z U hl=>?_,fun d=>⟨[],by simp⟩⟩).mono ?_
 ·cases U:Z.dead z with
  | false=>simp
  | true=>
   have:=(El.1 (Yc.1 U).1).1;have:=Jb c3.C.sm this;rw[aL (show ¬z<((0:Nat):Int) from a_)];simp
 ·have:=Jb c3.C.sm (El.1 (Yc.1 U).1).1
  omega
 rintro v h5 ⟨rfl,Y,c5,ca,r5⟩;have a7:∀z,Z.dead z=X.dead z:=fun z=>by unfold Co.dead;rw[lZ,a5,gZ]
 have lt:∀z,X.dead z=true->z<(n:Int):=fun z U=>by
  have:=(El.1 (Yc.1 U).1).1;rcases I8 C.sm z with y|⟨_,_,_,_,y⟩
  ·omega
  ·omega
 refine⟨rfl,Y,c3.trans c5,ca,⟨r5.k.es.trans a5,⟨r5.k.nm.1.trans ag.1,r5.k.nm.2.1.trans ag.2.1,r5.k.nm.2.2.1.trans ag.2.2.1,r5.k.nm.2.2.2.trans ag.2.2.2⟩,r5.k.g.trans gZ,⟨r5.k.o.1.trans oZ.1,r5.k.o.2.1.trans oZ.2.1,r5.k.o.2.2.trans oZ.2.2⟩,fun z=>?_,fun z U=>?_,fun d=>?_⟩⟩
 ·rw[r5.cl,a7,lZ]
  cases U:X.dead z with
  | false=>simp
  | true=>rw[aO (lt z U)];simp
 ·have:=r5.fr z (by rw[a7];exact U) (lt z U)
  rw[gZ]at this;exact this
 ·obtain⟨ex,he⟩:=r5.pre d
  exact⟨ex,by rw[he,pZ]⟩
end
end
section
theorem zC{a:Nat}(o:¬a=b)(C:a<n)(hb:b<n)(h:∀e,e<n->(ps e).length<=(f_ e).length):Oo ps n+(f_ a).length+(f_ b).length<=Oo f_ n+(ps a).length+(ps b).length:=by
 have u:=tv (ps:=ps) (d:=a) (l:=f_ a) n;rw[aI C]at u;have m:=zu (ps:=upd ps a (f_ a)) (f_:=f_) (d:=b) n hb fun e he=>by
  unfold upd;split
  next e2=>rw[e2];exact aE _
  ·exact h e he
 rw[show upd ps a (f_ a) b=ps b from aG (fun y=>o y.symm)]at m;omega
theorem Bcd{a:Nat}(o:¬a=b)(u:a<n)(hb:b<n)(h:∀e,e<n->(ps e).length<=(f_ e).length)(H:(ps a).length<(f_ a).length)(lb:(ps b).length<(f_ b).length):F2 ps n+1<=F2 f_ n:=by
 obtain⟨p1,C⟩:=(pQ (ps:=ps) (n:=n) a_ _).1 (cN (F2 ps n));refine(pQ a_ _).2 ⟨?_,fun d hd=>?_⟩
 ·have:=zC o u hb h;omega
 ·have J:=C d hd
  by_cases e1:d=a
  ·subst e1;have:=zC o u hb h;omega
  ·have:=zC (a:=d) (b:=a) e1 hd u h;omega
section
variable{L:List (List Nat)}
theorem Bht(g:T.g=S.g)(o:T.a=S.a/\T.b=S.b/\T.u=S.u):T.room=S.room:=by unfold Mi.room;rw[g,o.1,o.2.2]
theorem lj.len(k:lj X Y):∀d,(X.S.ps d).length<=(Y.S.ps d).length:=fun d=>by
 obtain⟨ex,he⟩:=k.pre d;rw[he,aF];omega
theorem lj.free(k:lj X Y)(c:Cc E X L mt):X.S.free<=Y.S.free/\(∀z1 u,X.dead z1=true->X.dead u=true->¬Bq X.S.g z1=Bq X.S.g u->X.S.free+X.S.g.S<=Y.S.free):=by
 have s:=c.c.sm;have:=s.d0;have:=s.s0;unfold Mi.free;rw[k.g,Bht k.g k.o];refine⟨?_,fun z1 u P h2 hd=>?_⟩
 ·have:=bU (Bd3 (n:=X.S.g.D.toNat) a_ fun d _=>k.len d) (show 0<=X.S.g.S from a_)
  omega
 ·have dz:∀z,X.dead z=true->0<=Bq X.S.g z/\(Bq X.S.g z).toNat<X.S.g.D.toNat/\(X.S.ps (Bq X.S.g z).toNat).length<(Y.S.ps (Bq X.S.g z).toNat).length:=fun z H=>by
   obtain⟨J,_,_,_,_,O⟩:=El.1 (Yc.1 H).1;have C:(Bq X.S.g z).toNat<X.S.g.D.toNat:=by
    rcases I8 s z with y|⟨_,y,_⟩<;>omega
   refine⟨J,C,?_⟩;obtain⟨ex,he⟩:=k.pre (Bq X.S.g z).toNat;have hm:=k.fr z H;rw[he]at hm⊢;rcases bN.1 hm with y|y
   ·rw[Jm.2 ⟨_,C,y⟩]at O;cases O
   ·have:=List.length_pos_of_mem y
    rw[aF];omega
  obtain⟨J,Q,U⟩:=dz z1 P;obtain⟨b1,b2,b3⟩:=dz u h2;have:=Bcd (a:=(Bq X.S.g z1).toNat) (b:=(Bq X.S.g u).toNat) a_ Q b2 (fun d _=>k.len d) U b3;have:=bU this (show 0<=X.S.g.S from a_);rw[Int.mul_add,Int.mul_one]at this;omega
end
structure Pt(X Y:Co)(mt mt':Int->Int)(e:En)(x:Me):Prop where
 es:Y.es=X.es
 nm:Y.gen=X.gen/\Y.ep=X.ep/\Y.nx=X.nx+1/\Y.st=X.st
 g:Y.S.g=X.S.g
 free:X.S.free-1<=Y.S.free
 cl:∀z,X.closed z=true->Y.closed z=true
 mt:∀x∈X.es,x.state=1->mt' x.Ai=mt x.Ai/\mt' x.Aw=mt x.Aw
 lv:¬e.kind=2->Fu False Y mt' x e.bytes
 sq:x.seq=X.nx
 st:x.state=1
 sm:x.sum=(Fq e.bytes:Nat)
 rg:Rng x.Ai/\Rng x.Aw
 op:x.Ai=Y.S.a/\x.Aw=Y.S.b
theorem TU{L:List (List Nat)}(c:Cc E X L mt)(o:e.Wf)(he:EOk e X.ep X.nx)(hf:1<=X.S.free):∃T mt' x,X.S.place e X.ep X.nx=(T,x,0)/\Cc E { X with S:=T,nx:=X.nx+1 } L mt'/\Pt X { X with S:=T,nx:=X.nx+1 } mt mt' e x:=by
 obtain⟨T,u⟩:=Bc1 c.c hf;obtain⟨mt',c1,f1,a,Q,l1,m1⟩:=c.opened u;obtain⟨c2,f2,rc⟩:=c1.Tu a o he;obtain⟨C,H,n3,n4,n5,n6,n7⟩:=c1.c.ne a;have pl:=Bdq c.c he;rw[u]at pl;have s:=c1.c.sm;have J:=c1.opm a.1;refine⟨_,mt',_,pl,c2,rfl,⟨rfl,rfl,rfl,rfl⟩,Q,?_,fun z O=>?_,m1,fun U=>⟨rfl,?_,rc U,J.1,J.2,.inl ⟨rfl,rfl⟩⟩,rfl,rfl,rfl,⟨Y6 s C,Y6 s H⟩,rfl,rfl⟩
 ·show X.S.free-1<=(T.Tu e X.ep X.nx).free
  have:(T.Tu e X.ep X.nx).free=T.free-1:=f2;omega
 ·have:=l1 z (El.1 O).1 O
  exact this
 ·have V:=EOk.seq he
  have hn:=c.nm.2.2;have hs:=qX (l:=e.bytes) o.u8;have P:=a.2;show meB T.g _=true;unfold meB;simp only[aV,aS];refine⟨TV c1.c.rt C n4 P,TV c1.c.rt H n4 P,n3,hn,V.2.1,a_,a_⟩
section
variable (A:Bu disp)(hK:10000<K){L:List (List Nat)}
include A hK
theorem Bt4(hd:22<=d)(w:e.Wf)(C:Cx h B X F)(c:Cc E X L mt)(he:EOk e X.ep X.nx)(hf:1<=X.S.free)(hx:X.nx<=281474976710655):Ok (Ag TT disp K d false 68 [.ptr B.c 0,.agg e.cells] h) fun v h'=>∃x Y mt',v=.tuple [.agg x.cells,I 0]/\E1 h h' B X F Y/\Cc E Y L mt'/\Pt X Y mt mt' e x:=by
 obtain⟨dd,rfl⟩:=d_ d;rw[IA A];simp only[xL,Aa];rw[show(h.new (.cells e.cells 141)).next=h.next+1 from rfl];have P:Ext h ((h.new (.cells e.cells 141)).new (.cells (Me.nil 0).cells 38)):=(Av.new _ _).Db _;have n1:((h.new (.cells e.cells 141)).new (.cells (Me.nil 0).cells 38)).next=h.next+2:=rfl
 have Q:((h.new (.cells e.cells 141)).new (.cells (Me.nil 0).cells 38)).get h.next=some (.cells e.cells 141):=by rw[Az _ (aN _)];exact Ad _ _
 have g4:((h.new (.cells e.cells 141)).new (.cells (Me.nil 0).cells 38)).get (h.next+1)=some (.cells (Me.nil 0).cells 38):=Ad _ _;rw[show[EV.int .i64 0,.int .i64 0,.int .i64 0,.int .i64 0,.int .i64 0,.int .i64 0]=(Me.nil 0).cells from rfl];generalize (h.new (.cells e.cells 141)).new (.cells (Me.nil 0).cells 38)=O at P n1 Q g4⊢;have a:=C.ext P;have f4:Bm F h O (h.next+1):=.inr ⟨a_,a_⟩;rw[a.DV,c.un];simp only[Aa];have lc:=a.hb _ _ a.core;have l3:=a.hb _ _ Q;have el:=En.Bh w;simp only[T6,Aa];rw[Hl lc,a.iA];simp only[Aa,As];rw[Hl l3,Cp Q rfl (Ak el)];simp only[Aa,As];rw[Hl lc,a.xt];simp only[Aa,As];rw[Hl lc,a.lu];simp only[Aa,As];have C':=a.lift;obtain⟨T,mt',x,hp,cc,pt⟩:=TU c w he hf;have pl:=TW A hK (d:=dd) a_ C'.M C'.hb w X.ep X.nx;rw[hp]at pl;refine Ok.bC (S:=fun j=>¬B.fr (Bm F h O) j) pl (fun _ _ p=>p.2.2.1) ?_;rintro _ au h2 s' ⟨rfl,M',_,U⟩ sm ch V;have mk:=DH X.S e X.ep X.nx;rw[hp]at mk;have c2:=a.H5 (M'.same sm) ch (sm.hb U) mk;have aa:=c2.k.at a.hb g4 f4;simp only[Aa];rw[Hg (by rcases V with rfl|⟨w,rfl,_⟩<;>kernel_rfl)];refine Ok.mk rfl rfl fun H x3 e3 _=>?_
 have c3:=c2.trans (c2.C.Xe x3);have ab:=x3.at c2.hb aa;have ad:B.c≠h2.next:=by have:=c2.hb _ _ c2.C.core;omega
 have ae:B.c≠h.next+1:=fun y=>a.out _ f4 (.inl y.symm)
 simp only[I,Ac,aC,Aa];rw[c3.C.lu];simp only[I,Ac];rw[Ch (by show _<=X.nx+1;have:=c.nm.2.2;omega) (by show X.nx+1<=_;omega)];refine Ok.hM c3.C.core rfl rfl (by show 5<7;decide) ?_;have c4:=c3.trans (c3.C.xr X.gen X.ep (X.nx+1) X.st);have J:(H.put B.c (.cells (({ X with S:=T,nx:=X.nx+1 }:Co).cells B) 91)).get h2.next=some (.cells x.cells 38):=by rw[Af _ ad];exact e3
 have u:(H.put B.c (.cells (({ X with S:=T,nx:=X.nx+1 }:Co).cells B) 91)).get (h.next+1)=some (.cells (Me.nil 0).cells 38):=by rw[Af _ ae];exact ab
 have o:E1 O (H.put B.c (.cells (({ X with S:=T,nx:=X.nx+1 }:Co).cells B) 91)) B X (Bm F h O) { X with S:=T,nx:=X.nx+1 }:=c4;show Ok (Pp _ _ _ _ _ _ (H.put B.c (.cells (({ X with S:=T,nx:=X.nx+1 }:Co).cells B) 91))) _;generalize H.put B.c (.cells (({ X with S:=T,nx:=X.nx+1 }:Co).cells B) 91)=h4 at o J u⊢;have l4:=o.hb _ _ u;simp only[Pp,dr];rw[Cp J rfl (Ak (n:=6) rfl)];refine Ok.nC u rfl rfl ?_;rw[Em (Ae _ _ _) lr.1 lr.2 rfl];exact .ret ⟨x,_,mt',rfl,E1.xz P o ((Av.refl (S:=fun i=>i=h.next+1) h4).Ar (.inl rfl) l4 _) (fun i hi=>by subst hi;omega) (o.hb.put l4 _),cc,pt⟩
end
end
section
noncomputable def Mi.Gq(S:Mi):Mi:={ S with dr:={ S.dr with dv:=S.dr.dv.tick } }
theorem Dq.Gq(c:Calm S):Dq S S.Gq fun _=>False:=⟨rfl,rfl,rfl,⟨rfl,rfl,rfl⟩,c.ev,c.up,rfl,rfl,rfl,rfl,fun _ _=>⟨rfl,rfl⟩,fun _ y=>y.elim⟩
section
variable{L:List (List Nat)}
theorem Cc.q0(C:Cc E X L mt)(q:Dq X.S T fun _=>False):Cc E { X with S:=T } L mt:=C.dq q (fun _ _ y=>y.elim) (fun _ _ _=>⟨fun y=>y,fun y=>y⟩) fun _ _ y=>y
theorem TX {S:J1}(ev:S.ev = [])(up:S.dv.down=false){z:Int}(u:S.dv.has z=true)(hs:¬(S.dv.zs z.toNat).st=4){o:Nat}{x:List EV}(a:(S.dv.zs z.toNat).l[o]? = some x):S.read z o=({ S with dv:=S.dv.tick },x,0):=by
 have hlen:=(aY.1 a).1;unfold J1.read;rw[Vu ev];unfold Dv.begin Dv.read;rw[tB up u,aI rfl,aG (fun y=>y rfl)];unfold jL;rw[aG hs,aI a_,bD,a];rfl
theorem Cc.tD(C:Cc E X L mt){x:Me}{z mt':Int}(dz:0<=Bq X.S.g z)(h0:0<=x.off)(b:A0p X.S x z):X.S.Dc x z mt'=(X.S.Gq,Dt,false,0):=by
 obtain⟨s,a,hs⟩:=b;obtain⟨_,H,J,_⟩:=Mu C.c dz;have hM:=(C.s2 _ H).1;obtain⟨o,u⟩:=av h0;unfold Mi.Dc;rw[u]at a hs⊢;rw[bD]at a;rw[TX C.c.ev C.c.up J a_ a];simp only[bK];unfold mB;rw[u,aG (fun y=>hs y.1)];rfl
theorem Cc.copy(C:Cc E X L mt){x:Me}{bs:List Nat}(l:Fu hf X mt x bs):∃o u:Bool,X.S.Dc x x.Ai x.Aw=(X.S.Gq,if o=true then bs else Dt,o,0)/\X.S.Dc x x.Aw x.Ai=(X.S.Gq,if u=true then bs else Dt,u,0)/\(¬hf->o=true/\u=true)/\(o=true\/u=true)/\(o=false->A0p X.S x x.Ai)/\(u=false->A0p X.S x x.Aw):=by
 obtain⟨e,O,J,ek,P,es,a,H⟩:=l.rc.ex;obtain⟨h1,h2,hd,hq,_⟩:=mz l.ok;obtain⟨d1,o0,o1⟩:=G6 h1;obtain⟨d2,_,_⟩:=G6 h2;obtain⟨z0,zn,zh,z1⟩:=Mu C.c d1;obtain⟨Q,mn,mh,m1⟩:=Mu C.c d2;have sm:=C.c.sm;have s1:=sm.s1;have hM:=(C.s2 _ zn).1;have ai:=(C.s2 _ mn).1;have U:¬e.kind=2/\x.seq=x.seq/\((Fq e.bytes:Nat):Int)=x.sum:=⟨ek,rfl,by rw[J];exact es.symm⟩;have V:Aqk X.S X.ep x e x.Ai x.Aw->X.S.Dc x x.Ai x.Aw=(X.S.Gq,bs,true,0):=fun a=>by
  have c1:=v7 (x:=x) C.c.ev C.c.up O (P.at (z:=x.Ai) (mt:=x.Aw) (off:=x.off) z0 a_ Q a_ o0 a_) rfl zh a_ o0 a;rw[aI U]at c1;rw[c1,<-J];rfl
 have k2:Aqk X.S X.ep x e x.Aw x.Ai->X.S.Dc x x.Aw x.Ai=(X.S.Gq,bs,true,0):=fun H=>by
  have c2:=v7 (x:=x) C.c.ev C.c.up O (P.at (z:=x.Aw) (mt:=x.Ai) (off:=x.off) Q a_ z0 a_ o0 a_) rfl mh a_ o0 H;rw[aI U]at c2;rw[c2,<-J];rfl
 rcases a with a|⟨f,b,r⟩
 ·rcases H with H|⟨f,b,_⟩
  ·exact⟨true,true,V a,k2 H,fun _=>⟨rfl,rfl⟩,.inl rfl,Bool.noConfusion,Bool.noConfusion⟩
  ·exact⟨true,false,V a,C.tD d2 o0 b,fun y=>absurd f y,.inl rfl,Bool.noConfusion,fun _=>b⟩
 ·exact⟨false,true,C.tD d1 o0 b,k2 r,fun y=>absurd f y,.inr rfl,fun _=>b,Bool.noConfusion⟩
theorem Fu.TY {x:Me}{bs:List Nat}(l:Fu hf X mt x bs):oK X.S.g x=true:=by
 unfold oK;rw[aO l.st,l.ok];rfl
theorem Fu.q0(C:Cc E X L mt){x:Me}{bs:List Nat}(l:Fu hf X mt x bs):Fu hf { X with S:=X.S.Gq } mt x bs:=by
 refine⟨l.st,l.ok,l.rc.dq (Dq.Gq C.c) (fun y=>y) fun y=>y,l.m1,l.m2,?_⟩;rw[Q9 (Dq.Gq C.c),Q9 (Dq.Gq C.c)];exact l.wh
theorem Cc.TZ(C:Cc E X L mt){x:Me}{bs:List Nat}(l:Fu hf X mt x bs):∃a o:Bool,X.S.Dc x x.Ai x.Aw=(X.S.Gq,if a=true then bs else Dt,a,0)/\X.S.Gq.Dc x x.Aw x.Ai=(X.S.Gq.Gq,if o=true then bs else Dt,o,0)/\(¬hf->a=true/\o=true)/\(a=true\/o=true)/\((a=true/\o=true)\/A0p X.S x x.Ai\/A0p X.S x x.Aw):=by
 obtain⟨H,u,e1,e2,f1,o1,b1,b2⟩:=C.copy l;obtain⟨c1,c2,e3,e4,f2,J,b3,b4⟩:=(C.q0 (Dq.Gq C.c)).copy (l.q0 C);cases H with
 | false=>
  cases c2 with
  | false=>
   have no:u=false:=by
    cases u with
    | false=>rfl
    | true=>
     rcases o1 with y|_
     ·cases y
     refine absurd (b4 rfl) fun hb=>?_
     have:=C.tD (mt':=x.Ai) (G6 (mz l.ok).2.1).1 (G6 (mz l.ok).1).2.1 hb;rw[e2]at this;injection this with _ y;injection y with _ y;injection y with y _;cases y
   subst no;exact⟨false,false,e1,e4,fun y=>⟨(f1 y).1,(f1 y).2⟩,o1,.inr (.inl (b1 rfl))⟩
  | true=>exact⟨false,true,e1,e4,fun y=>⟨(f1 y).1,rfl⟩,.inr rfl,.inr (.inl (b1 rfl))⟩
 | true=>
  cases c2 with
  | false=>exact⟨true,false,e1,e4,fun y=>⟨rfl,(f2 y).2⟩,.inl rfl,.inr (.inr (b4 rfl))⟩
  | true=>exact⟨true,true,e1,e4,fun _=>⟨rfl,rfl⟩,.inl rfl,.inl ⟨rfl,rfl⟩⟩
theorem Cc.read(C:Cc E X L mt){x:Me}{bs:List Nat}(l:Fu hf X mt x bs):∃T,X.S.read x=(T,bs,0)/\(T=X.S.Gq\/T=X.S.Gq.Gq):=by
 obtain⟨a,u,e1,e2,_,o,_⟩:=C.TZ l;unfold Mi.read;rw[aG (by rw[l.TY];decide),e1];cases a with
 | true=>rw[aI (.inl rfl)];exact⟨_,rfl,.inl rfl⟩
 | false=>
  rw[aG (fun y=>by rcases y with y|y;cases y;exact y rfl)];simp only;rw[e2];rcases o with y|y
  ·cases y
  ·subst y
   rw[aI (.inl rfl)];exact⟨_,rfl,.inr rfl⟩
theorem Cc.check(C:Cc E X L mt){x:Me}{bs:List Nat}(l:Fu hf X mt x bs):∃n:Int,X.S.check x=(X.S.Gq.Gq,bs,n,0)/\(n=2/\Fu False X mt x bs\/n=1/\hf):=by
 obtain⟨u,H,e1,e2,f,o,_⟩:=C.TZ l;have a:=C.q0 (Dq.Gq C.c);have b1:X.S.Gq.E8 x.Ai=false:=a.E8 _;have b2:X.S.Gq.Gq.E8 x.Aw=false:=(a.q0 (Dq.Gq a.c)).E8 _;have O:¬(u=true/\H=true)->hf:=fun y=>eA fun z=>y (f z)
 obtain⟨J,h2,_⟩:=mz l.ok;have P:u=true->¬A0p X.S x x.Ai:=fun y b=>by
  rw[C.tD (mt':=x.Aw) (G6 J).1 (G6 J).2.1 b,y]at e1;injection e1 with _ y;injection y with _ y;injection y with y _;cases y
 have Q:H=true->¬A0p X.S x x.Aw:=fun y b=>by
  have:=a.tD (x:=x) (mt':=x.Ai) (G6 h2).1 (G6 J).2.1 b;rw[show(({ X with S:=X.S.Gq }:Co).S.Dc x x.Aw x.Ai)=X.S.Gq.Dc x x.Aw x.Ai from rfl,e2,y]at this;injection this with _ y;injection y with _ y;injection y with y _;cases y
 unfold Mi.check;rw[aG (by rw[l.TY];decide),e1];simp only[aB,ak];rw[e2];unfold Mi.rU;simp only[aB,ak,b1,b2];cases u<;>cases H
 ·rcases o with y|y<;>cases y
 ·exact⟨1,rfl,.inr ⟨rfl,O fun y=>Bool.noConfusion y.1⟩⟩
 ·exact⟨1,rfl,.inr ⟨rfl,O fun y=>Bool.noConfusion y.2⟩⟩
 ·refine⟨2,rfl,.inl ⟨rfl,l.st,l.ok,?_,l.m1,l.m2,l.wh⟩⟩
  obtain⟨e,U,V,a3,a4,a5,a6,a7⟩:=l.rc.ex;exact⟨e,U,V,a3,a4,a5,a6.imp id fun y=>absurd y.2.1 (P rfl),a7.imp id fun y=>absurd y.2.1 (Q rfl)⟩
end
structure iS(X Y:Co)(D:Nat->Prop)(k:Nat):Prop where
 len:Y.es.length=X.es.length
 F1:∀(b:Nat) x,¬D b->X.es[b]? = some x->Y.es[b]? = some x
 mvd:∀(b:Nat) x,D b->X.es[b]? = some x->∃y,Y.es[b]? = some y/\y.state=1/\X.closed y.Ai=false/\X.closed y.Aw=false/\y.sum=x.sum/\X.nx<=y.seq
 nm:Y.gen=X.gen/\Y.ep=X.ep/\Y.nx=X.nx+k/\Y.st=X.st
 g:Y.S.g=X.S.g
 free:X.S.free-k<=Y.S.free
 cl:∀z,X.closed z=true->Y.closed z=true
theorem iS.refl(X:Co):iS X X (fun _=>False) 0:=⟨rfl,fun _ _ _ h=>h,fun _ _ y=>y.elim,⟨rfl,rfl,by simp,rfl⟩,rfl,by simp,fun _ h=>h⟩
theorem iS.trans{l:Nat}(a:iS X Y D k)(b:iS Y Z E l):iS X Z (fun i=>D i\/E i) (k+l):=by
 have u:∀z,Y.closed z=false->X.closed z=false:=fun z h=>by
  cases o:X.closed z with
  | false=>rfl
  | true=>rw[a.cl z o]at h;exact h
 refine⟨b.len.trans a.len,fun i x C o=>b.F1 i x (fun y=>C (.inr y)) (a.F1 i x (fun y=>C (.inl y)) o),fun i x C o=>?_,⟨b.nm.1.trans a.nm.1,b.nm.2.1.trans a.nm.2.1,by have:=a.nm.2.2.1;have:=b.nm.2.2.1;omega,b.nm.2.2.2.trans a.nm.2.2.2⟩,b.g.trans a.g,by have:=a.free;have:=b.free;omega,fun z h=>b.cl z (a.cl z h)⟩;have aa:=a.nm.2.2.1;rcases eO (D i)with d|d
 ·obtain⟨y,U,h2,h3,h4,V,h6⟩:=a.mvd i x d o
  rcases eO (E i)with e|e
  ·obtain⟨w,H,J,O,P,Q,g6⟩:=b.mvd i y e U
   exact⟨w,H,J,u _ O,u _ P,Q.trans V,a_⟩
  ·exact⟨y,b.F1 i y e U,h2,h3,h4,V,h6⟩
 ·have e:=C.resolve_left d
  obtain⟨w,H,J,O,P,Q,g6⟩:=b.mvd i x e (a.F1 i x d o);exact⟨w,H,J,u _ O,u _ P,Q,a_⟩
theorem Bn8 {n j:Int}(C:bl.length=32)(h0:1<=n)(a:n<=281474976710655)(o:0<=j)(u:j<=255):EOk ⟨3,n,1,j,0,0,bl⟩ 1 n:=by
 unfold EOk Es;rw[aI];refine⟨?_,?_,cN _,by show n-1<n;omega⟩
 ·unfold jg qY
  simp only[aV,Fk];refine⟨⟨a_,a⟩,⟨o,u⟩,⟨c_,c_⟩,?_⟩;rfl
 ·unfold iv
  simp only[aV,Fk];exact⟨⟨c_,c_⟩,⟨c_,c_⟩,⟨c_,c_⟩,⟨c_,c_⟩,a_,a⟩
end
section
theorem Cc.at{L:List (List Nat)}(c:Cc E X L mt){x:Me}(o:X.es[j]? = some x)(u:x.state=1):∃bs,L[j]? = some bs/\Fu (E j) X mt x bs:=by
 have a:j<L.length:=by rw[c.len];exact(aY.1 o).1
 refine⟨_,aD a,?_⟩;rcases c.Av4 j x _ o (aD a)with w|w
 ·rw[w.1]at u;cases u
 ·exact w
theorem oL {es:List Me}{x:Me}(a:es[j]? = some x):U7 es (j:Int)=(x,0):=by
 have hj:=(aY.1 a).1;unfold U7;rw[aI ⟨a_,a_⟩,bD,a];rfl
theorem Fu.meR{x:Me}{bs:List Nat}(l:Fu hf X mt x bs):meR X.S.g x=true:=by
 unfold Go.Ev.meR;rw[aG (by have:=l.st;omega),aI l.st,l.ok]
section
variable (A:Bu disp)(hK:10000<K){L:List (List Nat)}
include A hK
theorem Bgu(C:Cx h B X F)(c:Cc E X L mt){x:Me}(hx:X.es[j]? = some x)(h1:x.state=1)(hf:1<=X.S.free)(hn:X.nx<=281474976710655)(hd:22<=d){v5:Nat}(g5:h.get v5=some (.cells x.cells 38)):
 Ok (Yw (Ag TT disp K d false) (Ag TT disp K d true) K (.ptr B.c 0) (I j) (.ptr v5 0) h) fun v h'=>v=I 0/\∃Y mt',E1 h h' B X F Y/\(∀G:Nat->Prop,(∀b,E b->b=j\/G b)->Cc G Y L mt')/\iS X Y (fun i=>i=j) 1/\∃y,Y.es=X.es.set j y/\y.seq=X.nx:=by
 obtain⟨bs,hL,lv⟩:=c.at hx h1;have hj:=(aY.1 hx).1;have jb:j<=255:=by have:=c.lb;have:=c.c.sm.b1;omega
 have lc:=C.hb _ _ C.core;have l5:=C.hb _ _ g5;have r:=r9 C.sm lv.meR;simp only[Yw,Aa];rw[Hl lc,C.iA];simp only[Aa,As];rw[Hl l5,Cp g5 rfl (Ak (n:=6) rfl)];simp only[Aa,As];have rd:=Bj6 A hK (d:=d) a_ C.lift.M C.lift.hb r.1 r.2;have rk:=ZU X.S x;obtain⟨T,eT,hT⟩:=c.read lv;rw[eT]at rd rk;have qT:Dq X.S T fun _=>False:=by
  rcases hT with rfl|rfl
  ·exact Dq.Gq c.c
  ·have q:=(Dq.Gq c.c).trans (Dq.Gq (c.q0 (Dq.Gq c.c)).c)
   simp only[or_self]at q;exact q
 have fT:T.free=X.S.free:=by rcases hT with rfl|rfl<;>rfl
 refine Ok.bC (S:=fun j=>¬B.fr F j) rd (fun _ _ p=>p.2.2.2.1) ?_;rintro _ bq h2 s' ⟨rfl,O,M',_,ag⟩ sm ch ah;have c2:=C.H5 (M'.same sm) ch (sm.hb ag) rk;have H:=c.q0 qT;have P:iS X { X with S:=T } (fun _=>False) 0:=⟨rfl,fun _ _ _ h=>h,fun _ _ y=>y.elim,⟨rfl,rfl,by simp,rfl⟩,qT.g,by show X.S.free-0<=T.free;omega,fun z Q=>by rw[Q9 qT];exact Q⟩;have e2:({ X with S:=T }:Co).es=X.es/\({ X with S:=T }:Co).nx=X.nx/\({ X with S:=T }:Co).ep=X.ep/\({ X with S:=T }:Co).S.free=X.S.free:=⟨rfl,rfl,rfl,fT⟩;simp only at c2 H O;generalize ({ X with S:=T }:Co)=Y at c2 H P e2;obtain⟨eY,U,pY,fY⟩:=e2;have ul:(Be bs).length=32:=by rw[Bi,O.1]
 simp only[Aa];rw[Hg (by rcases ah with rfl|⟨w,rfl,_⟩<;>kernel_rfl)];refine Ok.mk (by simp) ul fun h3 x3 g7 _=>?_
 have c3:=c2.trans (c2.C.Xe x3);simp only[I,Ac,aC,Aa,MM];have ai:=c3.hb _ _ c3.C.core;have l7:=c3.hb _ _ g7;rw[Hl ai,c3.C.lu];simp only[Aa,As];rw[Hl l7,Cp g7 rfl (Ak ul)];simp only[Aa,As];have fe:=FA 3 Y.nx 1 (j:Int) O.1;rw[<-En.Jq]at fe;rw[show(EV.int .i64 3)=I 3 from rfl,show(EV.int .i64 1)=I 1 from rfl,show(EV.int .i64 (j:Int))=I j from rfl,Ay fe];have V:=c.nm;have pc:=Bt4 A hK (d:=d) a_ (⟨O.1,O.2⟩:(⟨3,Y.nx,1,(j:Int),0,0,bs⟩:En).Wf) c3.C.lift H (by rw[pY,U,V.2.1];exact Bn8 O.1 V.2.2 hn a_ a_) (by rw[fY];exact hf) (by rw[U];exact hn);refine Ok.bC (S:=fun j=>¬F j) pc (fun _ _ p=>by obtain⟨_,_,_,_,p,_⟩:=p;exact p.k) ?_;rintro _ b7 h4 s2 ⟨o,Z,mt',rfl,p,cz,a⟩ aj al ao;have c4:E1 h3 h4 B Y F Z:=⟨p.C.same aj,al,p.ck⟩;have c4:=c3.trans c4;simp only[Aa,I];rw[Hg (by rcases ao with rfl|⟨w,rfl,_⟩<;>kernel_rfl)];refine Ok.mk rfl rfl fun h5 x5 g9 _=>?_
 have J:=c4.trans (c4.C.Xe x5);simp only[Ac,aB,aA,Aa,ML];have aq:=J.hb _ _ J.C.core;have l9:=J.hb _ _ g9;rw[Hl aq,J.C.jc];simp only[Aa,As];rw[Hl l9,Cp g9 rfl (Ak (n:=6) rfl)];simp only[Aa,As];have ll:=a.lv (by show ¬(3:Int)=2;decide);have CL:=J.C.lift;have ms:=wK (K:=K) CL.sm CL.map CL.hb (x:=o) (fun _=>a.rg) (j:Int);have aa:j<Z.es.length:=by rw[a.es,eY];exact hj
 have sf:mI Z.S.g Z.es (j:Int) o=(Z.es.set j o,0):=by
  unfold mI;rw[aI ⟨a_,a_⟩,aI ll.meR,bD]
 rw[sf]at ms;refine Ok.bC (S:=fun i=>i=B.ml\/i=B.ll) ms (fun _ _ p=>p.2.2.1) ?_;rintro _ ct h6 s3 ⟨rfl,m6,_,aw⟩ u ax _;have c6:=J.trans (J.C.DT (m6.frame (u.get _) (u.get _) (u.get _)) ax (u.hb aw));have cs:=fun(G:Nat->Prop) (hG:∀b,E b->b=j\/G b)=>cz.set aa (x:=o) (bs:=bs) (.inr ll) (by rw[a.sq,a.nm.2.2.1];omega) hG
 have Ls:L.set j bs=L:=by
  apply dF;intro i;rw[cW];split
  next e=>
   subst e
   rw[hL];split
   ·rfl
   next hh=>exact absurd (by rw[c.len];exact hj) hh
  ·rfl
 rw[Ls]at cs;have eZ:Z.es=X.es:=a.es.trans eY;refine .ret ⟨rfl,_,mt',c6,cs,?_,o,by show Z.es.set j o=_;rw[eZ],a.sq.trans U⟩;have nc:∀z,Z.closed z=false->X.closed z=false:=fun z Q=>by
  cases hq:X.closed z with
  | false=>rfl
  | true=>rw[a.cl z (P.cl z hq)]at Q;exact Q
 have op:Z.closed o.Ai=false/\Z.closed o.Aw=false:=by
  obtain⟨w1,w2⟩:=a.op;constructor
  ·cases hq:Z.closed o.Ai with
   | false=>rfl
   | true=>exact absurd w1 (El.1 hq).2.1
  ·cases hq:Z.closed o.Aw with
   | false=>rfl
   | true=>exact absurd w2 (El.1 hq).2.2.1
 refine⟨by show(Z.es.set j o).length=_;rw[bM,eZ],fun i y hi hy=>?_,fun i y hi hy=>?_,⟨a.nm.1.trans P.nm.1,a.nm.2.1.trans pY,by show Z.nx=_;rw[a.nm.2.2.1,U];rfl,a.nm.2.2.2.trans P.nm.2.2.2⟩,a.g.trans P.g,?_,fun z Q=>a.cl z (P.cl z Q)⟩
 ·show(Z.es.set j o)[i]? = some y
  rw[cW,aG (fun e=>hi e.symm),eZ];exact hy
 ·subst hi
  rw[hx]at hy;cases hy;refine⟨o,?_,a.st,nc _ op.1,nc _ op.2,?_,by rw[a.sq,U];exact cN _⟩
  ·show(Z.es.set i o)[i]? = some o
   rw[cW,aI rfl,aI aa]
  ·obtain⟨e,_,eb,_,_,es,_⟩:=lv.rc.ex
   rw[es];exact a.sm
 ·show X.S.free-(1:Nat)<=Z.S.free
  have:=a.free;rw[fY]at this;exact this
end
end
section
def Sq(X:Co):Prop:=∀(b o:Nat) (x a:Me),X.es[b]? = some x->X.es[o]? = some a->x.state=1->a.state=1->x.seq=a.seq->b=o
theorem Sq.es(s:Sq X)(h:Y.es=X.es):Sq Y:=by unfold Sq;rw[h];exact s
theorem Sq.set(s:Sq X)(hs:∀x∈X.es,x.seq<X.nx){y:Me}(h:Y.es=X.es.set j y)(C:y.state=1->X.nx<=y.seq):Sq Y:=by
 intro b O x H o a J u e;rw[h,cW]at o a;split at o
 next e1=>
  split at a
  next e2=>rw[<-e1,<-e2]
  ·split at o
   ·cases o
    have:=hs H (bh a);have:=C J;omega
   ·cases o
 ·split at a
  ·split at a
   ·cases a
    have:=hs x (bh o);have:=C u;omega
   ·cases a
  ·exact s b O x H o a J u e
section
variable{L:List (List Nat)}
theorem Fu.Bs7(C:Cc E X L mt){x:Me}{bs:List Nat}(l:Fu hf X mt x bs){s:Int}(a:e.Wf)(o:EOk e X.ep s)(r:(X.S.dr.dv.zs x.Ai.toNat).l[x.off.toNat]? = some (jf e x.Ai x.Aw x.off X.ep s)\/(X.S.dr.dv.zs x.Aw.toNat).l[x.off.toNat]? = some (jf e x.Aw x.Ai x.off X.ep s)):s=x.seq:=by
 obtain⟨O,h2,hd,hq,_⟩:=mz l.ok;obtain⟨d1,o0,o1⟩:=G6 O;obtain⟨d2,_,_⟩:=G6 h2;obtain⟨z0,Q,U,z1⟩:=Mu C.c d1;obtain⟨u,V,mh,m1⟩:=Mu C.c d2;have sm:=C.c.sm;have s1:=sm.s1;have hM:=(C.s2 _ Q).1;have ab:=(C.s2 _ V).1;obtain⟨g1,g2,e1,e2,_,_,b1,b2⟩:=C.copy l;have key:∀{P:Prop} [Decidable P],(if P then(true,e.bytes)else(false,Dt)).1=true->P:=fun {P} _ h=>by
  by_cases hp:P
  ·exact hp
  ·rw[aG hp]at h;cases h
 have no:∀z mt:Int,(Es { e with Aw:=mt } z x.off X.ep s).2=0->(X.S.dr.dv.zs z.toNat).l[x.off.toNat]? = some (jf e z mt x.off X.ep s)->A0p X.S x z->False:=fun z mt f r ⟨t,h,hb⟩=>by
  rw[r]at h;cases h;have w':({ e with Aw:=mt }:En).Wf:=⟨a.len,a.u8⟩;obtain⟨f1,f2,_⟩:=v8 w' f;have H:=tE w' z x.off X.ep s;rw[f1]at H;have J:=v9 H f2;rw[show kq (jf e z mt x.off X.ep s)=Jh (Es { e with Aw:=mt } z x.off X.ep s).1 from tF _,f1]at hb;simp only at J;rw[J]at hb;exact hb rfl
 rcases r with r|r
 ·have f:=o.at (z:=x.Ai) (mt:=x.Aw) (off:=x.off) z0 a_ u a_ o0 a_
  have c1:=v7 (x:=x) C.c.ev C.c.up a f rfl U a_ o0 r;cases g1 with
  | false=>exact(no _ _ f r (b1 rfl)).elim
  | true=>rw[e1]at c1;exact(key (congrArg (fun t:Mi × List Nat × Bool × Int=>t.2.2.1) c1).symm).2.1
 ·have f:=o.at (z:=x.Aw) (mt:=x.Ai) (off:=x.off) u a_ z0 a_ o0 a_
  have c1:=v7 (x:=x) C.c.ev C.c.up a f rfl mh a_ o0 r;cases g2 with
  | false=>exact(no _ _ f r (b2 rfl)).elim
  | true=>rw[e2]at c1;exact(key (congrArg (fun t:Mi × List Nat × Bool × Int=>t.2.2.1) c1).symm).2.1
theorem mC {z:Int}{x:Me}:inB z x=true↔x.state=1/\(x.Ai=z\/x.Aw=z):=by
 unfold inB;simp only[aV,dY,aS]
theorem Cc.apart(C:Cc E X L mt)(sq:Sq X){O:Nat}{x o:Me}(P:X.es[b]? = some x)(H:X.es[O]? = some o){z:Int}(h:inB z x=true)(h':inB z o=true)(ho:x.off=o.off):b=O:=by
 obtain⟨Q,u⟩:=mC.1 h;obtain⟨J,a⟩:=mC.1 h';obtain⟨bs,_,l⟩:=C.at P Q;obtain⟨ab,_,l'⟩:=C.at H J;refine sq b O x o P H Q J ?_;obtain⟨e,we,_,_,eo,_,r1,_⟩:=l.rc.ex;have rr:=r1.imp id fun y=>y.2.2
 have m1:=l.m1;have m2:=l.m2;have U:=l'.m1;have V:=l'.m2;refine l'.Bs7 C we eo ?_;rw[<-ho];rcases u with u|u<;>rcases a with a|a
 ·have e1:o.Ai=x.Ai:=a.trans u.symm
  have e2:o.Aw=x.Aw:=by rw[<-U,e1,m1]
  rw[e1,e2];exact rr
 ·have e1:o.Aw=x.Ai:=a.trans u.symm
  have e2:o.Ai=x.Aw:=by rw[<-V,e1,m1]
  rw[e1,e2];exact rr.symm
 ·have e1:o.Ai=x.Aw:=a.trans u.symm
  have e2:o.Aw=x.Ai:=by rw[<-U,e1,m2]
  rw[e1,e2];exact rr.symm
 ·have e1:o.Aw=x.Aw:=a.trans u.symm
  have e2:o.Ai=x.Ai:=by rw[<-V,e1,m2]
  rw[e1,e2];exact rr
theorem tG {z:Int}{es:List Me}:b∈iB z es es.length↔∃x,es[b]? = some x/\inB z x=true:=by
 unfold iB;rw[fK,cm];constructor
 ·rintro⟨h,a⟩
  rw[aD h]at a⊢;exact⟨_,rfl,a⟩
 ·rintro⟨x,o,a⟩
  refine⟨(aY.1 o).1,?_⟩;rw[o];exact a
theorem Bln(z:Int)(es:List Me)(n:Nat):(iB z es n).Nodup:=List.Pairwise.filter _ List.nodup_range
theorem Bqs(z:Int)(es:List Me):((iB z es es.length).length:Int)=Ka es z:=by
 have key:∀(l:List Me) (k:Nat),(∀i,i<l.length->es[k+i]? = l[i]?)->(((List.range' k l.length).filter fun i=>inB z ((es[i]?).getD (Me.nil 0))).length:Int)=Ka l z:=fun l=>by
  induction l with
  | nil=>intro k _;rfl
  | cons x l o=>
   intro k h;have h0:=h 0 (by simp);rw[dU,bL]at h0;have a:=o (k+1) fun i a=>by
    have:=h (i+1) (by rw[bJ];omega);rw[bm]at this;rw[<-this];congr 1;omega
   rw[bJ,gF,eh,h0,Qa,<-a];simp only[Option.getD_some];unfold Wi;split
   next hb=>
    rw[aI (mC.1 hb),bJ];omega
   next hb=>
    rw[aG fun y=>hb (mC.2 y)];omega
 have:=key es 0 fun i _=>by rw[bP]
 unfold iB;rw[List.range_eq_range'];exact this
theorem T' {z:Int}:∀{es:List Me},(∀x∈es,x.state=1->¬x.Ai=z/\¬x.Aw=z)->Ka es z=0
 | [],_=>rfl
 | x::es,h=>by
  rw[Qa,T' fun y a=>h y (aT _ a)];unfold Wi;rw[aG]
  ·rfl
  ·rintro⟨o,h2⟩
   have:=h x (aW ..) o;exact h2.elim this.1 this.2
end
end
section
theorem iS.T_(a:iS X Y D k)(h:∀b,D b↔E b):iS X Y E k:=by
 have:D=E:=funext fun b=>propext (h b)
 subst this;exact a
section
variable (A:Bu disp)(hK:10000<K){L:List (List Nat)}
include A hK
theorem UA(C:Cx h B X F)(c:Cc E X L mt){x:Me}(a:X.es[j]? = some x)(o:x.state=1)(hf:1<=X.S.free)(u:X.nx<=281474976710655)(hd:23<=d):
 Ok (Ag TT disp K d false 73 [.ptr B.c 0,I j] h) fun v h'=>v=I 0/\∃Y mt',E1 h h' B X F Y/\(∀G:Nat->Prop,(∀b,E b->b=j\/G b)->Cc G Y L mt')/\iS X Y (fun i=>i=j) 1/\∃y,Y.es=X.es.set j y/\y.seq=X.nx:=by
 obtain⟨e,rfl⟩:=d_ d;rw[NK A];simp only[xT,Aa];rw[C.jc];refine Ok.Am (Oj (K:=K) C.sm C.map C.hb j) ?_;rintro _ h2 ⟨rfl,H⟩;have c2:=C.Xe H;rw[oL a];simp only[Aa];refine Ok.mk rfl rfl fun P J e3 _=>?_
 have c3:=c2.trans (c2.C.Xe J);rw[Aj e3 rfl (v:=I x.state) rfl];simp only[I,Ac];simp only[o,aB,aA,Aa];refine(Bgu A hK c3.C c a o hf u (d:=e) a_ e3).mono ?_;rintro v h4 ⟨rfl,Y,mt',c4,O,m,y⟩;exact⟨rfl,Y,mt',c3.trans c4,O,m,y⟩
theorem Brz(C:Cx h B X F)(c:Cc E X L mt){x:Me}(o:X.es[j]? = some x)(u:x.state=1)(hf:1<=X.S.free)(H:X.nx<=281474976710655)(hd:23<=d):
 Ok (Ag TT disp K d false 73 [.ptr B.c 0,I j] h) fun v h'=>v=I 0/\∃Y mt',E1 h h' B X F Y/\Cc E Y L mt'/\iS X Y (fun i=>i=j) 1/\∃y,Y.es=X.es.set j y/\y.seq=X.nx:=by
 refine(UA A hK C c o u hf H hd).mono ?_;rintro v h' ⟨a,Y,mt',b,J,y⟩;exact⟨a,Y,mt',b,J E fun _=>.inr,y⟩
omit A hK in
theorem iS.sq(c:Cc E X L mt)(s:Sq X)(m:∃y,Y.es=X.es.set j y/\y.seq=X.nx):Sq Y:=by
 obtain⟨y,e,q⟩:=m;exact s.set c.sq e fun _=>a_
omit hK in
theorem Bgh(C:Cx h B X F){x:Me}(a:X.es[j]? = some x)(o:¬x.state=1)(hd:23<=d):Ok (Ag TT disp K d false 73 [.ptr B.c 0,I j] h) fun v h'=>v=I 0/\E1 h h' B X F X:=by
 obtain⟨e,rfl⟩:=d_ d;rw[NK A];simp only[xT,Aa];rw[C.jc];refine Ok.Am (Oj (K:=K) C.sm C.map C.hb j) ?_;rintro _ h2 ⟨rfl,u⟩;have c2:=C.Xe u;rw[oL a];simp only[Aa];refine Ok.mk rfl rfl fun J H e3 _=>?_
 have c3:=c2.trans (c2.C.Xe H);rw[Aj e3 rfl (v:=I x.state) rfl];simp only[I,Ac];simp only[o,aQ,aC,Aa];exact .ret ⟨rfl,c3⟩
end
structure tH(X Y:Co)(z:Int)(n:Nat):Prop where
 len:Y.es.length=X.es.length
 F1:∀(b:Nat) x,inB z x=false->X.es[b]? = some x->Y.es[b]? = some x
 mvd:∀(b:Nat) x,inB z x=true->X.es[b]? = some x->∃y,Y.es[b]? = some y/\y.state=1/\y.sum=x.sum/\¬y.Ai=z/\¬y.Aw=z
 nm:Y.gen=X.gen+1/\Y.ep=X.ep/\Y.nx=X.nx+n/\Y.st=X.st
 g:Y.S.g=X.S.g
 free:X.S.free-n<=Y.S.free/\(0<n->X.S.free-n+X.S.g.S<=Y.S.free)
 fr:z∈Y.S.ps (Bq X.S.g z).toNat
 cl:Y.closed z=false
 dd:∀z,Y.dead z=false
theorem zE {z:Int}{x:Me}(h:inB z x=false)(a:x.state=1):¬x.Ai=z/\¬x.Aw=z:=by
 constructor<;>intro e
 ·rw[mC.2 ⟨a,.inl e⟩]at h;cases h
 ·rw[mC.2 ⟨a,.inr e⟩]at h;cases h
section
variable{L:List (List Nat)}
theorem Cc.Bo0(c:Cc E X L mt)(cy:Cc E Y L mt'){z:Int}(hz:X.closed z=true)(hn:n=(iB z X.es X.es.length).length)(m:iS X Y (fun i=>i∈iB z X.es X.es.length) n)(k:lj Y Z):tH X Z z n:=by
 have lv:∀w:Int,X.closed w=true->(∀x∈X.es,x.state=1->inB z x=false->¬x.Ai=w/\¬x.Aw=w)->Y.dead w=true:=fun w hw u=>by
  refine Yc.2 ⟨m.cl w hw,?_⟩;have:Ka Y.es w=0:=T' fun y P J=>by
   obtain⟨b,hb⟩:=eH.1 P;have hl:b<X.es.length:=by rw[<-m.len];exact(aY.1 hb).1
   have C:=aD hl;rcases eO (b∈iB z X.es X.es.length)with d|d
   ·obtain⟨y',a,_,V,h4,_⟩:=m.mvd b _ d C
    rw[hb]at a;cases a;exact⟨fun e=>by (rw[e,hw]at V;cases V),fun e=>by (rw[e,hw]at h4;cases h4)⟩
   ·have kx:=m.F1 b _ d C
    rw[hb]at kx;cases kx;refine u _ (bh C) J ?_;cases H:inB z X.es[b]with
    | false=>rfl
    | true=>exact absurd (tG.2 ⟨_,C,H⟩) d
  unfold Zg;rw[this,ite_self]
 have dz:Y.dead z=true:=lv z hz fun x _ J H=>zE H J
 have nz:∀w,X.closed w=false->¬w=z:=fun w hw e=>by rw[e,hz]at hw;cases hw
 refine⟨by rw[k.es];exact m.len,fun b x H u=>?_,fun b x H u=>?_,⟨?_,?_,?_,?_⟩,k.g.trans m.g,?_,?_,?_,k.dead⟩
 ·rw[k.es]
  refine m.F1 b x (fun hb=>?_) u;obtain⟨x',Q,o⟩:=tG.1 hb;rw[u]at Q;cases Q;rw[H]at o;cases o
 ·obtain⟨y,J,h2,V,h4,h5,_⟩:=m.mvd b x (tG.2 ⟨x,u,H⟩) u
  exact⟨y,by rw[k.es];exact J,h2,h5,nz _ V,nz _ h4⟩
 ·rw[k.nm.1,m.nm.1]
 ·rw[k.nm.2.1,m.nm.2.1]
 ·rw[k.nm.2.2.1,m.nm.2.2.1]
 ·rw[k.nm.2.2.2,m.nm.2.2.2]
 ·obtain⟨f1,f2⟩:=k.free cy
  have mf:=m.free;refine⟨a_,fun hp=>?_⟩;rw[hn]at hp;obtain⟨b,hb⟩:=List.exists_mem_of_length_pos hp;obtain⟨x,u,H⟩:=tG.1 hb;obtain⟨J,U⟩:=mC.1 H;obtain⟨bs,_,l⟩:=c.at u J;obtain⟨_,_,hd,_⟩:=mz l.ok;obtain⟨_,za,zb,_⟩:=El.1 hz;have wh:X.closed x.Ai=true/\X.closed x.Aw=true:=by
   rcases l.wh with⟨w1,w2⟩|w
   ·rcases U with e|e
    ·exact absurd (e▸w1) za
    ·exact absurd (e▸w2) zb
   ·exact w
  have both:Y.dead x.Ai=true/\Y.dead x.Aw=true:=by
   rcases U with e|e
   ·refine⟨by rw[e];exact dz,lv _ wh.2 fun y P a o=>?_⟩
    obtain⟨b',O⟩:=eH.1 P;obtain⟨ab,_,l'⟩:=c.at O a;have no:=zE o a;refine⟨fun e'=>no.2 ?_,fun e'=>no.1 ?_⟩
    ·rw[<-l'.m1,e',l.m2];exact e
    ·rw[<-l'.m2,e',l.m2];exact e
   ·refine⟨lv _ wh.1 fun y P a o=>?_,by rw[e];exact dz⟩
    obtain⟨b',O⟩:=eH.1 P;obtain⟨ab,_,l'⟩:=c.at O a;have no:=zE o a;refine⟨fun e'=>no.2 ?_,fun e'=>no.1 ?_⟩
    ·rw[<-l'.m1,e',l.m1];exact e
    ·rw[<-l'.m2,e',l.m1];exact e
  have:=f2 _ _ both.1 both.2 (by rw[m.g];exact hd);rw[m.g]at this;omega
 ·have:=k.fr z dz
  rw[m.g]at this;exact this
 ·rw[k.cl,dz,fG,dV]
end
section
variable (A:Bu disp)(hK:10000<K){L:List (List Nat)}
include A hK
theorem A65(c:Cc E X L mt)(sq:Sq X){z:Int}(hz:X.closed z=true)(hd:23<=d){s:EV}{N:List Nat}(u:N=iB z X.es X.es.length)(hL:N.length<=256)(hf:(N.length:Int)<=X.S.free)(hg:X.gen<281474976710655)(hx:X.nx+N.length<=281474976710655)(fq:0<N.length->F q):∀(f i:Nat) (o:Ab) (Y:Co) (mt':Int->Int),N.length-i<f->i<=N.length->E1 h o B X F Y->Cc E Y L mt'->Sq Y->iS X Y (fun b=>b∈N.take i) i->Ce o s q 3 1 N.length (N.map nI) ->
 Ok (Mo (Ag TT disp K d false) (Ag TT disp K d true) K f (.ptr B.c 0) s (I N.length) (I i) o) fun v h'=>v=I 0/\∃Z mt',E1 h h' B X F Z/\Cc E Z L mt'/\Sq Z/\tH X Z z N.length:=by
 intro f;induction f with
 | zero=>intro i o Y mt' hf;omega
 | succ f ih=>
  intro i o Y mt' ah hi c1 H sy m row;rw[Mo];simp only[I,Ac];have mn:=m.nm;by_cases a:i<N.length
  ·have:decide ((i:Int)<(N.length:Int))=true:=by simp;omega
   simp only[this,Aa,HM];have ix:=row.ix a .i64;rw[ix,bc,Aj (row.block a_) rfl (v:=I (N[i]:Int)) (by rw[bH,aD a];rfl)];have nd:N.Nodup:=by rw[u];exact Bln _ _ _
   have ni:N[i] ∉ N.take i:=by
    intro hm;obtain⟨k,hk,J⟩:=List.mem_take_iff_getElem.1 hm;exact(List.pairwise_iff_getElem.1 nd) k i a_ a a_ J
   have O:∀b,b∈N->b∈iB z X.es X.es.length:=fun b hb=>by rw[<-u];exact hb
   obtain⟨x,P,Q⟩:=tG.1 (O _ (bI a));have U:=m.F1 _ x ni P;have mf:=m.free;refine Ok.Am (Brz A hK c1.C H U (mC.1 Q).1 a_ a_ hd) ?_;rintro _ h2 ⟨rfl,Z,V,c2,cz,m2,y2⟩;have bl:=hL;simp only[I,Ac,aB,aA,Aa,HL];rw[Ch,show((i:Nat):Int)+1=((i+1:Nat):Int) from a_];refine ih (i+1) h2 Z V a_ a_ (c1.trans c2) cz (iS.sq H sy y2) ((m.trans m2).T_ fun b=>?_) (row.frame fun y=>c2.k.get _ (c1.hb _ _ (row.block y)) fun w=>w (fq y));rw[fZ,aD a,bN];simp
  ·have:decide ((i:Int)<(N.length:Int))=false:=by simp;omega
   simp only[this,Aa,HK];have ei:i=N.length:=a_
   subst ei;rw[bY]at m;refine Ok.Am (zB A hK c1.C H a_ a_ (d:=d)) ?_;rintro _ h2 ⟨rfl,Z,c2,cz,k2⟩;refine .ret ⟨rfl,Z,mt',c1.trans c2,cz,sy.es k2.es,?_⟩;exact c.Bo0 H hz (by rw[u]) (by rw[u]at m⊢;exact m) k2
theorem Bnz(C:Cx h B X F)(c:Cc E X L mt)(sq:Sq X)(hd:24<=d){z:Int}(u:X.closed z=true)(Q:Rng z)(hf:((iB z X.es X.es.length).length:Int)<=X.S.free)(hg:X.gen<281474976710655)(H:X.nx+(iB z X.es X.es.length).length<=281474976710655):Ok (Ag TT disp K d false 144 [.ptr B.c 0,I z] h) fun v h'=>v=I 0/\∃Y mt',E1 h h' B X F Y/\Cc E Y L mt'/\Sq Y/\tH X Y z (iB z X.es X.es.length).length:=by
 obtain⟨e,rfl⟩:=d_ d;rw[Ar9 A a_];simp only[HO,Aa];refine Ok.Am (xw A hK C (d:=e) a_ Q) ?_;rintro _ h2 ⟨rfl,U⟩;have c2:=C.rd U;rw[u];simp only[Aa,HN];refine Ok.Am (Ο A hK c2.C (d:=e) a_ z) ?_;rintro v J ⟨O,q,row,lq⟩;have bl:=EO z X.es X.es.length;have el:=C.ET;have V:iB z X.es X.es.length=iB z X.es X.es.length:=rfl;revert V;generalize a:iB z X.es X.es.length=N at row lq bl hf H⊢;intro _;rw[row.Ip];have C3:Cx J B X (fun i=>F i\/(0<N.length/\i=q)):=by
  obtain⟨⟨T,k,t⟩,_⟩:=O;refine(c2.C.kp k).less fun i o=>?_
  rcases o with o|⟨P,rfl⟩
  ·exact .inl o
  ·exact .inr ⟨lq P,(k.chg.hb c2.C.hb) _ _ (row.block P)⟩
 have:=A65 A hK (F:=fun i=>F i\/(0<N.length/\i=q)) c sq u (d:=e) a_ (s:=v) (q:=q) (N:=N) a.symm a_ hf hg H (fun y=>.inr ⟨y,rfl⟩) K 0 J X mt a_ a_ (E1.refl C3) c sq ((iS.refl X).T_ fun b=>by simp) row;refine Ok.mono this ?_;rintro _ h4 ⟨rfl,Y,mt',c4,cy,sy,k⟩;have c4:=c4.less (F:=F) fun i=>.inl
 exact⟨rfl,Y,mt',(c2.trans (c2.C.rd O)).trans c4,cy,sy,k⟩
end
end
section
theorem UB:X.Lh (n+1)=if X.jQ n=true/\(X.Lh n = -1\/X.live n<X.live (X.Lh n))then(n:Int)else X.Lh n:=rfl
theorem UC:∀n:Nat,X.Lh n = -1->∀z:Nat,z<n->X.jQ z=false
 | 0,_,z,a=>a_
 | n+1,h,z,a=>by
  rw[UB]at h;split at h
  ·omega
  next o=>
   rcases dQ z n with y|y
   ·exact UC n h z y
   ·have:z=n:=a_
    subst this;cases u:X.jQ z with
    | false=>rfl
    | true=>exact absurd ⟨u,.inl h⟩ o
theorem UD:∀n:Nat,¬X.Lh n = -1->X.jQ (X.Lh n)=true
 | 0,h=>absurd rfl h
 | n+1,h=>by
  rw[UB]at h⊢;split
  next a=>exact a.1
  next a=>
   rw[aG a]at h;exact UD n h
theorem Bsm(a:rtB g=true):1<=g.segments/\g.E7+8<=g.D*g.Z:=by
 have s:=Jp a;have:=s.d0;have:=s.z0;have:=s.s0;have:=s.b0;have:=s.p0;have H:2*g.B<=g.S*g.segments:=by
  unfold rtB at a;simp only[aV,aS]at a;exact a.2.2
 have o:1<=g.segments:=by
  rcases gh 0 g.segments with y|y
  ·exact y
  ·have:=dX (show 0<=g.S from a_) (show 0<=-g.segments from a_)
   rw[Int.mul_neg]at this;omega
 refine⟨o,?_⟩;have u:0<=g.D*g.P:=dX a_ a_;have e1:g.D*(g.Z-g.P-2)=g.D*g.Z-g.D*g.P-2*g.D:=by rw[Int.mul_sub,Int.mul_sub];omega
 unfold Gm.segments at o;have C:g.least<=g.D*(g.Z-g.P-2)-2*g.E7+1:=by unfold Gm.least;omega
 unfold Gm.E7 at *;omega
section
variable{L:List (List Nat)}
theorem Cc.rng(C:Cc E X L mt){z:Int}(o:X.closed z=true):0<=z/\z<X.S.g.D*X.S.g.Z:=by
 have:=(El.1 o).1;rcases I8 C.c.sm z with y|⟨_,_,_,a,b⟩
 ·omega
 ·exact⟨a,b⟩
theorem Cc.Zg(C:Cc E X L mt){z:Int}(a:X.closed z=true):Go.Ev.Zg X.S.g X.es z=Ka X.es z:=by
 unfold Go.Ev.Zg;rw[aI (C.rng a)]
theorem Cc.whole(C:Cc E X L mt)(z:Int):kE X.S z X.es=true:=by
 unfold kE;rw[dS];intro x _;have:mL X.S x=true:=by
  unfold mL;rw[C.E8,C.E8];rfl
 rw[this,Bool.or_true]
theorem Cc.full(C:Cc E X L mt)(u:X.Lh (X.S.g.D*X.S.g.Z).toNat = -1){z:Int}(o:X.closed z=true):X.S.g.S<2*Ka X.es z:=by
 obtain⟨a,b⟩:=C.rng o;have h:=UC _ u z.toNat a_;rw[show((z.toNat:Nat):Int)=z from a_]at h;unfold Co.jQ Co.live at h;rw[o,C.whole,C.Zg o,Bool.and_true,bF,cq]at h;omega
theorem Cc.Bso(C:Cc E X L mt)(a:¬X.Lh (X.S.g.D*X.S.g.Z).toNat = -1):X.closed (X.Lh (X.S.g.D*X.S.g.Z).toNat)=true/\2*Ka X.es (X.Lh (X.S.g.D*X.S.g.Z).toNat)<=X.S.g.S:=by
 have h:=UD _ a;unfold Co.jQ Co.live at h;simp only[aV,aS]at h;refine⟨h.1,?_⟩;rw[<-C.Zg h.1];exact h.2.1
theorem Cc.UE(C:Cc E X L mt)(hf:∀z,X.closed z=true->X.S.g.S<2*Ka X.es z):X.S.g.E7<=F2 X.S.ps X.S.g.D.toNat:=by
 rcases gh (F2 X.S.ps X.S.g.D.toNat) X.S.g.E7 with y|y
 ·have d0:=C.c.sm.d0
  refine(A8t C.c.rt (closed:=X.closed) (es:=X.es) (ps:=X.S.ps) (ar:=[X.cur 0,X.Bt 0,X.cur 1,X.Bt 1,X.cur 2,X.Bt 2]) (op:=[X.S.a,X.S.b]) (by simp) (by simp) (fun d hd=>?_) (fun z J=>?_) hf C.lb y).elim
  ·have o:=C.ar 0 a_;have u:=C.ar 1 a_;have H:=C.ar 2 a_
   simp only[eh,List.filter_nil,o.1,o.2.1,u.1,u.2.1,H.1,H.2.1];rcases dQ d 3 with y|y
   ·rcases(by omega:d=0\/d=1\/d=2)with rfl|rfl|rfl<;>simp<;>omega
   ·have e:∀k:Nat,k<3->decide (¬((k:Int)=(d:Int)))=true:=fun k O=>by simp;omega
    have e0:=e 0 a_;have e1:=e 1 a_;have e2:=e 2 a_;rw[e0,e1,e2];simp;omega
  ·rcases C.cover J with y|y|⟨i,P,y⟩|y|y
   ·exact .inl y
   ·exact .inr (.inl y)
   ·refine .inr (.inr (.inl ?_))
    rcases(by omega:i=0\/i=1\/i=2)with rfl|rfl|rfl<;>rcases y with y|y<;>simp[y]
   ·exact .inr (.inr (.inr (by simp[y])))
   ·exact .inr (.inr (.inr (by simp[y])))
 ·exact y
theorem Cc.UF(C:Cc E X L mt):X.S.g.S*F2 X.S.ps X.S.g.D.toNat<=X.S.free/\X.S.free<=X.S.g.S*F2 X.S.ps X.S.g.D.toNat+X.S.g.S:=by
 have:=C.c.tA;unfold Mi.free;omega
end
end
section
def Co.jn(X:Co):Nat->Bool
 | 0=>false
 | n+1=>X.jn n||X.dead n
theorem UG:∀n:Nat,X.jn n=false->∀z:Nat,z<n->X.dead z=false
 | 0,_,z,a=>a_
 | n+1,h,z,a=>by
  unfold Co.jn at h;rw[Bool.or_eq_false_iff]at h;rcases dQ z n with y|y
  ·exact UG n h.1 z y
  ·have:z=n:=a_
   subst this;exact h.2
theorem UH:∀n z:Nat,z<n->X.dead z=true->X.jn n=true
 | 0,z,a,_=>a_
 | n+1,z,a,h=>by
  unfold Co.jn;rw[dY];rcases dQ z n with y|y
  ·exact .inl (UH n z y h)
  ·have:z=n:=a_
   subst this;exact .inr h
section
variable{L:List (List Nat)}
theorem A8c(A:Bu disp)(hK:10000<K)(Q:X.S.g.D*X.S.g.Z=n)(hd:9<=d):∀(f i:Nat) (h:Ab),n-i<f->i<=n->X.jn i=false->Cx h B X F ->
 Ok (N9 (Ag TT disp K d false) (Ag TT disp K d true) K f (.ptr B.c 0) (I n) (I i) h) fun v h'=>v=.bool (X.jn n)/\Qt F h h':=by
 intro f;induction f with
 | zero=>intro i h hf;omega
 | succ f O=>
  intro i h hf U J C;have bd:=C.sm.Uw;rw[N9];simp only[I,Ac];by_cases u:i<n
  ·have:decide ((i:Int)<(n:Int))=true:=by simp;omega
   simp only[this,Aa,HR];refine(EG A hK C hd (z:=i) ⟨a_,a_⟩).Am ?_;rintro _ h2 ⟨rfl,H⟩;cases o:X.dead i with
   | true=>
    simp only[Aa];exact .ret ⟨by rw[UH n i u o],H⟩
   | false=>
    simp only[Aa,HQ,Ac];rw[Ch,show((i:Nat):Int)+1=((i+1:Nat):Int) from a_];refine(O (i+1) h2 a_ a_ (by unfold Co.jn;rw[J,o];rfl) (C.rd H).C).mono ?_;rintro v V ⟨a,P⟩;exact⟨a,H.trans P⟩
  ·have:decide ((i:Int)<(n:Int))=false:=by simp;omega
   have e:i=n:=a_
   subst e;simp only[this,Aa,HP];exact .ret ⟨by rw[J],Qt.refl C.hb⟩
theorem Br7(A:Bu disp)(hK:10000<K)(C:Cx h B X F)(hd:10<=d):Ok (Ag TT disp K d false 174 [.ptr B.c 0] h) fun v h'=>v=.bool (X.jn (X.S.g.D*X.S.g.Z).toNat)/\Qt F h h':=by
 obtain⟨e,rfl⟩:=d_ d;rw[Aty A a_];simp only[HS,Aa];rw[C.iA];refine r7 A C fun h2 o=>?_
 have bd:=C.sm.Uw;obtain⟨n,u⟩:=av (show 0<=X.S.g.D*X.S.g.Z from a_);rw[u,bD];refine(A8c A hK u (d:=e) a_ K 0 h2 a_ a_ rfl (C.Xe o).C).mono ?_;rintro v J ⟨a,H⟩;exact⟨a,(Qt.ext o C.hb).trans H⟩
structure Tdy(X Y:Co)(k:Nat):Prop where
 len:Y.es.length=X.es.length
 gen:X.gen<=Y.gen/\Y.gen<=X.gen+k
 nx:X.nx<=Y.nx/\Y.nx<=X.nx+64*k
 nm:Y.ep=X.ep/\Y.st=X.st
 g:Y.S.g=X.S.g
 free:X.S.free<=Y.S.free
theorem Tdy.refl(X:Co):Tdy X X 0:=⟨rfl,⟨cN _,by simp⟩,⟨cN _,by simp⟩,⟨rfl,rfl⟩,rfl,cN _⟩
theorem Tdy.trans{l:Nat}(a:Tdy X Y k)(b:Tdy Y Z l):Tdy X Z (k+l):=by
 have o:=a.gen;have b1:=b.gen;have u:=a.nx;have b2:=b.nx;have C:=a.free;have b3:=b.free;exact⟨b.len.trans a.len,a_,a_,⟨b.nm.1.trans a.nm.1,b.nm.2.trans a.nm.2⟩,b.g.trans a.g,a_⟩
theorem Tdy.more{l:Nat}(a:Tdy X Y k)(h:k<=l):Tdy X Y l:=by
 have o:=a.gen;have u:=a.nx;exact⟨a.len,a_,a_,a.nm,a.g,a.free⟩
theorem lj.zF(k:lj X Y)(c:Cc E X L mt):Tdy X Y 1:=by
 have:=k.nm;exact⟨by rw[k.es],a_,a_,⟨k.nm.2.1,k.nm.2.2.2⟩,k.g,(k.free c).1⟩
theorem tH.zF{z:Int}(k:tH X Y z n)(c:Cc E X L mt)(a:(n:Int)<=X.S.g.S):Tdy X Y 1:=by
 have:=k.nm;have:=c.c.sm.s1;have:=c.c.sm.s0;have f:=k.free;refine⟨k.len,a_,a_,⟨k.nm.2.1,k.nm.2.2.2⟩,k.g,?_⟩;rcases eI n with y|y
 ·subst y;omega
 ·have:=f.2 y;omega
def zG(X:Co):Prop:=X.jn (X.S.g.D*X.S.g.Z).toNat=false/\X.Lh (X.S.g.D*X.S.g.Z).toNat = -1
theorem UI(h:∀z,X.dead z=false):∀n,X.jn n=false
 | 0=>rfl
 | n+1=>by unfold Co.jn;rw[UI h n,h];rfl
theorem Cc.jn(c:Cc E X L mt)(h:X.jn (X.S.g.D*X.S.g.Z).toNat=false)(z:Int):X.dead z=false:=by
 cases hd:X.dead z with
 | false=>rfl
 | true=>
  obtain⟨a,b⟩:=c.rng (Yc.1 hd).1;have:=UG _ h z.toNat a_;rw[show((z.toNat:Nat):Int)=z from a_,hd]at this;exact this
variable (A:Bu disp)(hK:10000<K)
include A hK
theorem Bsr(C:Cx h B X F)(c:Cc E X L mt)(sq:Sq X)(hf:X.S.g.S<=X.S.free)(hg:X.gen<281474976710655)(V:X.nx+64<=281474976710655)(hd:25<=d):Ok (Ag TT disp K d false 133 [.ptr B.c 0] h) fun v h'=>∃(b:Bool) (Y:Co) (mt':Int->Int),v=.tuple [.bool b,I 0]/\E1 h h' B X F Y/\Cc E Y L mt'/\Sq Y /\
 ((b=false/\Y=X/\zG X)\/(b=true/\¬zG X/\Tdy X Y 1/\(∀z,Y.dead z=false)/\(X.jn (X.S.g.D*X.S.g.Z).toNat=false->2*X.S.free+X.S.g.S<=2*Y.S.free))):=by
 obtain⟨e,rfl⟩:=d_ d;rw[Aul A a_];simp only[HJ,Aa];refine Ok.Am (Br7 A hK C (d:=e) a_) ?_;rintro _ h2 ⟨rfl,J⟩;have c2:=C.rd J;unfold zG;cases O:X.jn (X.S.g.D*X.S.g.Z).toNat with
 | true=>
  simp only[Aa];refine Ok.Am (zB A hK c2.C c hg a_ (d:=e)) ?_;rintro _ P ⟨rfl,Y,c3,a,k⟩;exact .ret ⟨true,Y,mt,rfl,c2.trans c3,a,sq.es k.es,.inr ⟨rfl,(fun y=>by cases y.1),k.zF c,k.dead,fun y=>by cases y⟩⟩
 | false=>
  simp only[Aa,HI];refine Ok.Am (Υ A hK c2.C (d:=e) a_) ?_;rintro _ P ⟨rfl,Q⟩;have c3:=c2.trans (c2.C.rd Q);have u:=Ψ A hK C (d:=0);have H:=fun y=>c.Bso y
  generalize X.Lh (X.S.g.D*X.S.g.Z).toNat=z at u H⊢;simp only[I,Ac];by_cases o:z = -1
  ·simp only[o,aC,Aa]
   exact .ret ⟨false,X,mt,rfl,c3,c,sq,.inl ⟨by trivial,by trivial,by trivial,by trivial⟩⟩
  ·obtain⟨v1,v2⟩:=H o
   have ln:=Bqs z X.es;have s0:=c.c.sm.s0;have s1:=c.c.sm.s1;have dz:=c.jn O z;simp only[o,aA,Aa,HH];refine Ok.Am (Bnz A hK c3.C c sq (d:=e) a_ v1 u a_ hg a_) ?_;rintro _ h4 ⟨rfl,Y,mt',c4,a,U,k⟩;refine .ret ⟨true,Y,mt',rfl,c3.trans c4,a,U,.inr ⟨rfl,(fun y=>y.2),k.zF c a_,k.dd,fun _=>?_⟩⟩;have np:0<(iB z X.es X.es.length).length:=by
    rcases eI (iB z X.es X.es.length).length with y|y
    ·have:X.dead z=true:=Yc.2 ⟨v1,by rw[c.Zg v1];omega⟩
     rw[this]at dz;cases dz
    ·exact y
   have:=k.free.2 np;omega
end
end
section
noncomputable def Co.prs(X:Co):Int:=F2 X.S.ps X.S.g.D.toNat
section
variable (A:Bu disp)(hK:10000<K){L:List (List Nat)}
include hK in
theorem zH(C:Cx h B X F){k:EV->Ab->R}{Q:EV->Ab->Prop}(a:∀h',Ext h h'->Ok (k (.int .i64 X.prs) h') Q):Ok (Am (Cs K (.ptr B.m 0) h) fun v h=>Am (Iz K v h) k) Q:=
 ο hK C.M C.hb fun h' x=>a h' x
include A hK
omit A in
theorem Bgw {a:Ab}(c1:E1 h a B X F Y)(hp:¬Y.prs=0)(n:Int)(d:Nat):Ok (Nx (Ag TT disp K d false) (Ag TT disp K d true) K (.ptr B.c 0) (I n) a) fun v h'=>v=I 0/\E1 h h' B X F Y:=by
 simp only[Nx,Aa];rw[c1.C.iA];refine zH hK c1.C fun h2 o=>?_
 have c2:=c1.trans (c1.C.Xe o);have u:Eu (.tuple []) false=false/\Eu (.tuple []) true=false:=⟨rfl,rfl⟩;simp only[I,Ac,hp,aA,Aa,KV,KU];exact .ret ⟨rfl,c2⟩
structure Rm(X Y:Co)(n:Int):Prop where
 t:Tdy X Y 1024
 same:n<=X.prs->Y=X
 res:n<=X.S.g.E7->n<=Y.prs
omit A hK in
theorem Cc.prs(c:Cc E X L mt):X.S.g.S*X.prs<=X.S.free/\X.S.free<=X.S.g.S*X.prs+X.S.g.S:=c.UF
omit A hK in
theorem Cc.UJ(c:Cc E X L mt){k:Int}(h:X.S.g.S*k+X.S.g.S<X.S.free+1):k<=X.prs:=by
 have p:=c.prs.2;have s0:=c.c.sm.s0;rcases gh X.prs k with y|y
 ·have:X.S.g.S*(X.prs+1)<=X.S.g.S*k:=bU y a_
  rw[Int.mul_add,Int.mul_one]at this;omega
 ·exact y
theorem Baa(c:Cc E X L mt)(hf:3*X.S.g.S<=X.S.free)(hg:X.gen+1024<=281474976710655)(hx:X.nx+65600<=281474976710655)(hd:25<=d){n:Int}{N:Nat}(hn:n<=X.S.g.D*X.S.g.Z)(hN:2*(X.S.g.D*X.S.g.Z)=N)(ae:N<=1024)(np:¬n<=X.prs):∀(f i:Nat) (u:Ab) (Y:Co) (mt':Int->Int),N-i<f->i<=N->E1 h u B X F Y->Cc E Y L mt'->Sq Y->Tdy X Y i->(0<i->Y.jn (X.S.g.D*X.S.g.Z).toNat=false/\2*X.S.free+((i:Int)-1)*X.S.g.S<=2*Y.S.free) ->
 Ok (Ko (Ag TT disp K d false) (Ag TT disp K d true) K f (.ptr B.c 0) (I n) (I N) (I i) u) fun v h'=>v=I 0/\∃Z mt',E1 h h' B X F Z/\Cc E Z L mt'/\Sq Z/\Rm X Z n:=by
 have s0:=c.c.sm.s0;intro f;induction f with
 | zero=>intro i u Y mt' hf;omega
 | succ f ih=>
  intro i u Y mt' ag hi c1 a O t V;rw[Ko];have o:=t.g;have tf:=t.free;have p2:2<=Y.prs:=a.UJ (by rw[o];omega);have fin:∀(h2:Ab),E1 h h2 B X F Y->(n<=X.S.g.E7->n<=Y.prs)->Ok (Nx (Ag TT disp K d false) (Ag TT disp K d true) K (.ptr B.c 0) (I n) h2) fun v h'=>v=I 0/\∃Z mt',E1 h h' B X F Z/\Cc E Z L mt'/\Sq Z/\Rm X Z n:=fun h2 c2 J=>by
   refine(Bgw hK c2 a_ n d).mono ?_;rintro _ P ⟨rfl,c3⟩;exact⟨rfl,Y,mt',c3,a,O,t.more a_,fun y=>absurd y np,J⟩
  simp only[I,Ac];by_cases ah:i<N
  ·have:decide ((i:Int)<(N:Int))=true:=by simp;omega
   simp only[this,Aa,Y9];rw[c1.C.iA];refine zH hK c1.C fun h2 x2=>?_
   have c2:=c1.trans (c1.C.Xe x2);simp only[Ac];by_cases hp:n<=Y.prs
   ·simp only[hp,aC,Aa]
    exact .ret ⟨rfl,Y,mt',c2,a,O,t.more a_,fun y=>absurd y np,fun _=>hp⟩
   simp only[hp,aA,Aa,KY];have tn:=t.nx;have aj:=t.gen;refine Ok.Am (Bsr A hK c2.C a O (by rw[o];omega) a_ a_ hd) ?_;rintro _ P ⟨b,Z,Q,rfl,c3,cz,sz,w⟩;have H:=c2.trans c3;have ao:Eu (.tuple []) false=false/\Eu (.tuple []) true=false:=⟨rfl,rfl⟩;simp only[Aa,I,Ac];rw[show decide ((0:Int)=34)=false from rfl];simp only[Aa,KX];rcases w with⟨rfl,rfl,id⟩|⟨rfl,id,t2,dd,w2⟩
   ·simp only[Aa,Ac,Xk]
    refine fin P H fun J=>?_
    rw[<-congrArg Gm.E7 o]at J;exact Int.le_trans J (a.UE fun z hz=>a.full id.2 hz)
   ·simp only[aB,aA,Aa,Ac,Xk,KW]
    rw[Ch,show((i:Nat):Int)+1=((i+1:Nat):Int) from a_];have t3:=t.trans t2;refine ih (i+1) P Z Q a_ a_ H cz sz t3 fun _=>⟨UI dd _,?_⟩
    have f2:=t2.free;rw[show(((i+1:Nat):Int)-1)=(i:Int) from a_];rcases eI i with y|y
    ·subst y;simp;omega
    ·obtain⟨a1,U⟩:=V y
     rw[<-o]at a1;have:=w2 a1;rw[o]at this;rw[Int.sub_mul,Int.one_mul]at U;omega
  ·have:decide ((i:Int)<(N:Int))=false:=by simp;omega
   simp only[this,Aa];refine fin u c1 fun _=>?_
   have e:i=N:=a_
   have all:=c.c.sm.Uw;obtain⟨_,U⟩:=V a_;refine a.UJ ?_;rw[o];have m:X.S.g.S*n<=X.S.g.S*(X.S.g.D*X.S.g.Z):=bU hn a_;rw[e,<-hN,Int.sub_mul,Int.one_mul,Int.mul_assoc,Int.mul_comm (X.S.g.D*X.S.g.Z) X.S.g.S]at U;omega
theorem Bsk(C:Cx h B X F)(c:Cc E X L mt)(sq:Sq X)(hf:3*X.S.g.S<=X.S.free)(hg:X.gen+1024<=281474976710655)(J:X.nx+65600<=281474976710655)(hd:26<=d){n:Int}(h0:0<=n)(O:n<=X.S.g.D*X.S.g.Z):Ok (Ag TT disp K d false 99 [.ptr B.c 0,I n] h) fun v h'=>v=I 0/\∃Z mt',E1 h h' B X F Z/\Cc E Z L mt'/\Sq Z/\Rm X Z n:=by
 obtain⟨e,rfl⟩:=d_ d;rw[Auq A a_];simp only[Li,Aa,I,Ac];have P:Eu (.tuple []) false=false/\Eu (.tuple []) true=false:=⟨rfl,rfl⟩;have a:¬n<0:=a_
 simp only[a,aA,Aa,Ac];rw[C.iA];refine r7 A C fun h2 Q=>?_
 have c2:=C.Xe Q;have U:¬X.S.g.D*X.S.g.Z<n:=a_
 simp only[I,Ac,U,aA,Aa,K_,KZ];rw[c2.C.iA];refine r7 A c2.C fun V x3=>?_
 have c3:=c2.trans (c2.C.Xe x3);have bd:=C.sm.Uw;obtain⟨N,u⟩:=av (show 0<=2*(X.S.g.D*X.S.g.Z) from a_);simp only[I,Ac];rw[Ch,u];by_cases np:n<=X.prs
 ·
  have H:K=(K-1)+1:=a_
  rw[H,Ko,<-H];simp only[I,Ac];have o:decide ((0:Int)<(N:Int))=true:=by simp;omega
  simp only[o,Aa,Y9];rw[c3.C.iA];refine zH hK c3.C fun h4 x4=>?_
  have c4:=c3.trans (c3.C.Xe x4);simp only[Ac,np,aC,Aa];exact .ret ⟨rfl,X,mt,c4,c,sq,(Tdy.refl X).more a_,fun _=>rfl,fun _=>np⟩
 ·exact Baa A hK c hf hg J (d:=e) a_ O u a_ np K 0 V X mt a_ a_ c3 c sq (Tdy.refl X) fun y=>a_
theorem UK(C:Cx h B X F)(c:Cc E X L mt)(sq:Sq X)(hf:3*X.S.g.S<=X.S.free)(hg:X.gen+1024<=281474976710655)(a:X.nx+65600<=281474976710655)(hd:27<=d:=by omega):Ok (Ag TT disp K d false 67 [.ptr B.c 0] h) fun v h'=>v=I 0/\∃Z mt',E1 h h' B X F Z/\Cc E Z L mt'/\Sq Z/\Rm X Z X.S.g.E7:=by
 obtain⟨e,rfl⟩:=d_ d;rw[Aok A a_];simp only[JV,Aa];rw[C.iA];refine Ok.Am (Sw (K:=K) C.M C.hb) ?_;rintro _ h2 ⟨rfl,o⟩;rw[UL C.sm,Au];have c3:=C.Xe (o.Db (.cells (gL X.S.g) 23));have J:=(Bsm c.c.rt).2;have u:0<=X.S.g.E7:=by
  have:=dX (show 0<=X.S.g.D by have:=c.c.sm.d0;omega) c.c.sm.p0;unfold Gm.E7;omega
 refine Ok.Am (Bsk A hK c3.C c sq hf hg a (d:=e) a_ u a_) ?_;rintro _ h4 ⟨rfl,Z,mt',c4,H,sz,r⟩;exact .ret ⟨rfl,Z,mt',c3.trans c4,H,sz,r⟩
omit A hK in
theorem Rm.UN(a:Cc E Y L mt')(r:Rm X Y X.S.g.E7):4*X.S.g.S<=Y.S.free:=by
 have p:=r.res (cN _);have q:=a.prs.1;have s:=a.c.sm;have s0:=s.s0;have d0:=s.d0;have p0:=s.p0;rw[r.t.g]at q s0 d0 p0;have o:4<=X.S.g.E7:=by
  have:=dX (show 0<=X.S.g.D from a_) p0;unfold Gm.E7;omega
 have:X.S.g.S*4<=X.S.g.S*Y.prs:=bU a_ a_;omega
end
end
section
structure Jc(E:Nat->Prop)(X:Co)(L:List (List Nat))(mt:Int->Int):Prop where
 c:Cc E X L mt
 sq:Sq X
 fr:3*X.S.g.S<=X.S.free
theorem Jc.mono{L:List (List Nat)}(J:Jc E X L mt)(h:∀(b:Nat) x bs,E b->X.es[b]? = some x->L[b]? = some bs->Fu True X mt x bs->¬G b->Fu False X mt x bs):Jc G X L mt:=⟨J.c.mono h,J.sq,J.fr⟩
structure iL(X Y:Co):Prop where
 g:Y.S.g=X.S.g
 nm:Y.ep=X.ep/\Y.st=X.st
 gen:X.gen<=Y.gen/\Y.gen<=X.gen+1100
 nx:X.nx<=Y.nx/\Y.nx<=X.nx+70000
theorem iL.refl(X:Co):iL X X:=⟨rfl,⟨rfl,rfl⟩,a_,a_⟩
theorem Tdy.qZ(t:Tdy X Y 1024):iL X Y:=by
 have a:=t.gen;have b:=t.nx;exact⟨t.g,t.nm,a_,a_⟩
theorem UO {es:List Me}{j:Int}(h:¬(0<=j/\j<es.length)):U7 es j=(Me.nil 0,13):=by unfold U7;rw[aG h]
theorem iS.qZ(t:Tdy X Y 1024)(m:iS Y Z D k)(o:k<=4):iL X Z:=by
 have a:=t.gen;have b:=t.nx;have n:=m.nm;exact⟨m.g.trans t.g,⟨n.2.1.trans t.nm.1,n.2.2.2.trans t.nm.2⟩,a_,a_⟩
section
variable (A:Bu disp)(hK:10000<K){L:List (List Nat)}
include A hK
theorem A8d(C:Cx h B X F)(J:Jc E X L mt)(hg:X.gen+1100<=281474976710655)(a:X.nx+70000<=281474976710655)(hd:28<=d)(j:Int):Ok (Ag TT disp K d false 39 [.ptr B.c 0,I j] h) fun v h'=>∃(e:Int) (Y:Co) (mt':Int->Int),v=I e/\E1 h h' B X F Y/\(∀G:Nat->Prop,(∀b:Nat,E b->(b:Int)=j\/G b)->Jc G Y L mt')/\iL X Y/\(¬e=0->e=13/\Y=X/\¬(0<=j/\j<X.es.length)):=by
 obtain⟨e,rfl⟩:=d_ d;rw[Att A a_];simp only[HE,Aa];rw[C.jc];refine Ok.Am (Oj (K:=K) C.sm C.map C.hb j) ?_;rintro _ h2 ⟨rfl,x2⟩;have c2:=C.Xe x2;simp only[Aa];have Q:∀{Y:Co} {mt':Int->Int},Jc E Y L mt'->(∀(b:Nat) x,(b:Int)=j->Y.es[b]? = some x->¬x.state=1)->∀G:Nat->Prop,(∀b:Nat,E b->(b:Int)=j\/G b)->Jc G Y L mt':=fun J n G U=>⟨J.c.mono fun b x bs e a _ w ng=>absurd w.st (n b x ((U b e).resolve_right ng) a),J.sq,J.fr⟩
 by_cases hj:0<=j/\j<X.es.length
 case neg=>
  rw[UO hj];simp only;refine Ok.mk rfl rfl fun h3 V e3 _=>?_
  have c3:=c2.trans (c2.C.Xe V);have aa:Eu (.tuple []) false=false/\Eu (.tuple []) true=false:=⟨rfl,rfl⟩;simp only[I,Ac];have H:¬(13:Int)=0:=c_
  simp only[H,aQ,aC,Aa,Ac,Sf];exact .ret ⟨13,X,mt,rfl,c3,Q J (fun b x e a=>by have:=(aY.1 a).1;omega),iL.refl X,fun _=>⟨rfl,rfl,hj⟩⟩
 obtain⟨b,rfl⟩:=av hj.1;have o:=aD (show b<X.es.length from a_);rw[oL o];simp only;generalize X.es[b]=x at o⊢;refine Ok.mk rfl rfl fun h3 V e3 _=>?_
 have c3:=c2.trans (c2.C.Xe V);have aa:Eu (.tuple []) false=false/\Eu (.tuple []) true=false:=⟨rfl,rfl⟩;simp only[I,Ac,aB,aA,Aa];rw[Aj e3 rfl (v:=I x.state) rfl];simp only[I,Ac];by_cases h1:x.state=1
 case neg=>
  simp only[h1,aQ,aC,Aa,Ac,Sf];exact .ret ⟨0,X,mt,rfl,c3,Q J (fun b' x' e a=>by
   obtain rfl:b'=b:=a_
   rw[o]at a;cases a;exact h1),iL.refl X,fun y=>absurd rfl y⟩
 simp only[h1,aB,aA,Aa,Ac,Sf,HD];refine Ok.Am (UK A hK c3.C J.c J.sq J.fr a_ a_ (d:=e)) ?_;rintro _ h5 ⟨rfl,Y,mt',u,O,sy,r⟩;have u:=c3.trans u;have mu:=r.UN O;have s0:=J.c.c.sm.s0;have tn:=r.t.nx;simp only[I,Ac,aB,aA,Aa,HC];have ae:b<Y.es.length:=by rw[r.t.len];omega
 have P:=aD ae;generalize Y.es[b]=y at P;by_cases y1:y.state=1
 ·refine Ok.Am (UA A hK u.C O P y1 a_ a_ (d:=e) a_) ?_
  rintro _ h6 ⟨rfl,Z,ag,c6,cz,m,yy⟩;have mg:=m.g;have tg:=r.t.g;have mf:=m.free;exact .ret ⟨0,Z,ag,rfl,u.trans c6,fun G U=>⟨cz G fun i hi=>(U i hi).imp (fun y=>by omega) id,iS.sq O sy yy,by rw[mg,tg];omega⟩,iS.qZ r.t m a_,fun y=>absurd rfl y⟩
 ·refine Ok.Am (Bgh A u.C P y1 (d:=e) a_) ?_
  rintro _ h6 ⟨rfl,c6⟩;have tg:=r.t.g;exact .ret ⟨0,Y,mt',rfl,u.trans c6,Q ⟨O,sy,by rw[tg];omega⟩ (fun b' x' e a=>by
   obtain rfl:b'=b:=a_
   rw[P]at a;cases a;exact y1),r.t.qZ,fun y=>absurd rfl y⟩
theorem A6l(C:Cx h B X F)(J:Jc E X L mt)(hd:15<=d):Ok (Ag TT disp K d false 43 [.ptr B.c 0] h) fun v h'=>v=I 0/\∃Y,E1 h h' B X F Y/\Jc E Y L mt/\iL X Y/\Y.gen=X.gen/\Y.nx=X.nx:=by
 obtain⟨e,rfl⟩:=d_ d;rw[Ar8 A a_];simp only[HF,Aa];rw[C.iA];obtain⟨D,V,dr⟩:=nJ A hK C.M C.hb;rw[dr.D8];have hf:=tC J.c.c.ev J.c.c.up;refine Ok.Am (dr.flush (d:=e) a_) ?_;rintro v O ⟨rfl,u,kf,o⟩;have c1:=C.H5 u kf o (rS (uf _));have H:Dq X.S { X.S with dr:=X.S.dr.flush.1 } fun _=>False:=by rw[hf];exact Dq.Sa J.c.c
 have a:=J.c.dq H (fun _ _ y=>y.elim) (fun _ _ _=>⟨id,id⟩) fun _ _=>id
 rw[hf];rw[hf]at c1 a;exact .ret ⟨rfl,_,c1,⟨a,J.sq.es rfl,J.fr⟩,⟨rfl,⟨rfl,rfl⟩,⟨cN _,by show X.gen<=_;omega⟩,⟨cN _,by show X.nx<=_;omega⟩⟩,rfl,rfl⟩
end
end
structure Rd'(X Y:Co):Prop where
 es:Y.es=X.es
 nm:Y.gen=X.gen/\Y.ep=X.ep/\Y.nx=X.nx/\Y.st=X.st
 g:Y.S.g=X.S.g
 cl:∀z,Y.closed z=X.closed z
 o:Y.S.a=X.S.a/\Y.S.b=X.S.b
theorem Rd'.refl(X:Co):Rd' X X:=⟨rfl,⟨rfl,rfl,rfl,rfl⟩,rfl,fun _=>rfl,⟨rfl,rfl⟩⟩
theorem Rd'.trans(a:Rd' X Y)(b:Rd' Y Z):Rd' X Z:=⟨b.es.trans a.es,⟨b.nm.1.trans a.nm.1,b.nm.2.1.trans a.nm.2.1,b.nm.2.2.1.trans a.nm.2.2.1,b.nm.2.2.2.trans a.nm.2.2.2⟩,b.g.trans a.g,fun z=>(b.cl z).trans (a.cl z),⟨b.o.1.trans a.o.1,b.o.2.trans a.o.2⟩⟩
theorem Rd'.qZ(r:Rd' X Y):iL X Y:=⟨r.g,⟨r.nm.2.1,r.nm.2.2.2⟩,by have:=r.nm.1;omega,by have:=r.nm.2.2.1;omega⟩
section
def Co.ku(X:Co)(es:List Me):Co:={ X with es:=es }
section
variable (A:Bu disp)(hK:10000<K){L:List (List Nat)}
include A hK
theorem Bta(hd:22<=d)(w:e.Wf){o:List Me}(C:Cx h B X F)(c:Cc E (X.ku o) L mt)(he:EOk e X.ep X.nx)(hf:1<=X.S.free)(hx:X.nx<=281474976710655):Ok (Ag TT disp K d false 68 [.ptr B.c 0,.agg e.cells] h) fun v h'=>∃x Y mt',v=.tuple [.agg x.cells,I 0]/\E1 h h' B X F Y/\Cc E (Y.ku o) L mt'/\Pt (X.ku o) (Y.ku o) mt mt' e x/\Y.es=X.es:=by
 obtain⟨dd,rfl⟩:=d_ d;rw[IA A];simp only[xL,Aa];rw[show(h.new (.cells e.cells 141)).next=h.next+1 from rfl];have Q:Ext h ((h.new (.cells e.cells 141)).new (.cells (Me.nil 0).cells 38)):=(Av.new _ _).Db _;have n1:((h.new (.cells e.cells 141)).new (.cells (Me.nil 0).cells 38)).next=h.next+2:=rfl
 have U:((h.new (.cells e.cells 141)).new (.cells (Me.nil 0).cells 38)).get h.next=some (.cells e.cells 141):=by rw[Az _ (aN _)];exact Ad _ _
 have g4:((h.new (.cells e.cells 141)).new (.cells (Me.nil 0).cells 38)).get (h.next+1)=some (.cells (Me.nil 0).cells 38):=Ad _ _;rw[show[EV.int .i64 0,.int .i64 0,.int .i64 0,.int .i64 0,.int .i64 0,.int .i64 0]=(Me.nil 0).cells from rfl];generalize (h.new (.cells e.cells 141)).new (.cells (Me.nil 0).cells 38)=P at Q n1 U g4⊢;have a:=C.ext Q;have f4:Bm F h P (h.next+1):=.inr ⟨a_,a_⟩;have un:X.st=false:=c.un;rw[a.DV,un];simp only[Aa];have lc:=a.hb _ _ a.core;have l3:=a.hb _ _ U;have el:=En.Bh w;simp only[T6,Aa];rw[Hl lc,a.iA];simp only[Aa,As];rw[Hl l3,Cp U rfl (Ak el)];simp only[Aa,As];rw[Hl lc,a.xt];simp only[Aa,As];rw[Hl lc,a.lu];simp only[Aa,As];have C':=a.lift;obtain⟨T,mt',x,hp,cc,pt⟩:=TU c w he hf;have hp:X.S.place e X.ep X.nx=(T,x,0):=hp;have nm:0<=X.gen/\X.ep=1/\1<=X.nx:=c.nm;have pl:=TW A hK (d:=dd) a_ C'.M C'.hb w X.ep X.nx;rw[hp]at pl;refine Ok.bC (S:=fun j=>¬B.fr (Bm F h P) j) pl (fun _ _ p=>p.2.2.1) ?_;rintro _ aw h2 s' ⟨rfl,M',_,V⟩ sm ch aa;have mk:=DH X.S e X.ep X.nx;rw[hp]at mk;have c2:=a.H5 (M'.same sm) ch (sm.hb V) mk;have ab:=c2.k.at a.hb g4 f4;simp only[Aa];rw[Hg (by rcases aa with rfl|⟨w,rfl,_⟩<;>kernel_rfl)];refine Ok.mk rfl rfl fun J x3 e3 _=>?_
 have c3:=c2.trans (c2.C.Xe x3);have ad:=x3.at c2.hb ab;have ae:B.c≠h2.next:=by have:=c2.hb _ _ c2.C.core;omega
 have af:B.c≠h.next+1:=fun y=>a.out _ f4 (.inl y.symm)
 simp only[I,Ac,aC,Aa];rw[c3.C.lu];simp only[I,Ac];rw[Ch (by show _<=X.nx+1;omega) (by show X.nx+1<=_;omega)];refine Ok.hM c3.C.core rfl rfl (by show 5<7;decide) ?_;have c4:=c3.trans (c3.C.xr X.gen X.ep (X.nx+1) X.st);have O:(J.put B.c (.cells (({ X with S:=T,nx:=X.nx+1 }:Co).cells B) 91)).get h2.next=some (.cells x.cells 38):=by rw[Af _ ae];exact e3
 have H:(J.put B.c (.cells (({ X with S:=T,nx:=X.nx+1 }:Co).cells B) 91)).get (h.next+1)=some (.cells (Me.nil 0).cells 38):=by rw[Af _ af];exact ad
 have u:E1 P (J.put B.c (.cells (({ X with S:=T,nx:=X.nx+1 }:Co).cells B) 91)) B X (Bm F h P) { X with S:=T,nx:=X.nx+1 }:=c4;show Ok (Pp _ _ _ _ _ _ (J.put B.c (.cells (({ X with S:=T,nx:=X.nx+1 }:Co).cells B) 91))) _;generalize J.put B.c (.cells (({ X with S:=T,nx:=X.nx+1 }:Co).cells B) 91)=h4 at u O H⊢;have l4:=u.hb _ _ H;simp only[Pp,dr];rw[Cp O rfl (Ak (n:=6) rfl)];refine Ok.nC H rfl rfl ?_;rw[Em (Ae _ _ _) lr.1 lr.2 rfl];exact .ret ⟨x,_,mt',rfl,E1.xz Q u ((Av.refl (S:=fun i=>i=h.next+1) h4).Ar (.inl rfl) l4 _) (fun i hi=>by subst hi;omega) (u.hb.put l4 _),cc,pt,rfl⟩
end
def kv(g:Gm)(w:Wr):Bool:=decide (0<=w.block)&&decide (w.block<g.B)
def oM(g:Gm)(L:List Wr):Bool:=L.all (kv g)&&(decide (1<=(L.length:Int))&&decide ((L.length:Int)<=4))
theorem Bml {p:Wr->Bool}{L:List Wr}(a:i<L.length)(h:(L.take i).all p=true)(hp:p L[i]=true):(L.take (i+1)).all p=true:=by
 rw[fZ,aD a,List.all_append,h];simp[hp]
section
variable{L:List Wr}(fb:0<L.length->F b)(hL:L.length<=2000000)
include fb hL
theorem A99:∀(f i:Nat) (h:Ab),L.length-i<f->i<=L.length->(L.take i).all (kv X.S.g)=true->Cx h B X F->j9 h v b L ->
 Ok (Nu K f (.ptr B.c 0) v v (I L.length) (I i) h) fun w h'=>w=.bool (oM X.S.g L)/\Ext h h':=by
 intro f;induction f with
 | zero=>intro i h hf;omega
 | succ f Q=>
  intro i h hf hi H C W;rw[Nu];simp only[I,Ac];by_cases o:i<L.length
  ·have:decide ((i:Int)<(L.length:Int))=true:=by simp;omega
   simp only[this,Aa,JU];rw[W.at o];have wf:=W.wf _ (bI o);have J:=Bml (p:=kv X.S.g) o H;have u:kv X.S.g L[i]=false->L.all (kv X.S.g)=false:=fun y=>by
    rw[List.all_eq_false];exact⟨_,bI o,by rw[y];simp⟩
   generalize L[i]=w at wf J u⊢;have wl:=Wr.len wf
   try simp only[Aa]
   rw[xA];refine Ok.mk rfl wl fun h3 O e3 _=>?_
   rw[Aj e3 rfl (v:=I w.block) rfl];refine Ok.Am (Ω (K:=K) (C.Xe O).C w.block) ?_;rintro _ h4 ⟨rfl,U⟩;have x:=O.trans U;show Ok (jt (.bool (kv X.S.g w)) _) _;cases hw:kv X.S.g w with
   | false=>
    simp only[Aa];exact .ret ⟨by unfold oM;rw[u hw,bB],x⟩
   | true=>
    simp only[Aa,JT,Ac];rw[Ch,show((i:Nat):Int)+1=((i+1:Nat):Int) from a_];refine Ok.mono (Q (i+1) h4 a_ a_ (J hw) (C.Xe x).C (W.frame fun y=>x.get _ (C.M.lt _ (.inl (fb y))) id)) ?_;rintro w h5 ⟨a,V⟩;exact⟨a,x.trans V⟩
  ·have:decide ((i:Int)<(L.length:Int))=false:=by simp;omega
   have aa:Eu (.tuple []) false=false/\Eu (.tuple []) true=false:=⟨rfl,rfl⟩;have ei:i=L.length:=a_
   rw[ei,bY]at H;simp only[this,Aa,JS];rw[W.Ip];unfold oM;rw[H];simp only[I,Ac];by_cases P:1<=(L.length:Int)
   ·simp only[P,aC,Aa,Ac]
    rw[W.Ip];simp only[I,Ac,Yr,Aa];exact .ret ⟨rfl,Av.refl _⟩
   ·simp only[P,aA,Aa,Ac,Yr]
    exact .ret ⟨rfl,Av.refl _⟩
end
end
section
def fB(W:List Wr)(k:Nat):Nat:=((W[k]?).getD ⟨0,Dt⟩).block.toNat
def fY(W:List Wr)(k:Nat):List Nat:=((W[k]?).getD ⟨0,Dt⟩).bytes
def fX(xs:List Me)(k:Nat):Me:=(xs[k]?).getD (Me.nil 0)
def Yu(es:List Me)(W:List Wr)(xs:List Me):Nat->List Me
 | 0=>es
 | n+1=>(Yu es W xs n).set (fB W n) (fX xs n)
def oN(L:List (List Nat))(W:List Wr):Nat->List (List Nat)
 | 0=>L
 | n+1=>(oN L W n).set (fB W n) (fY W n)
theorem zI(es:List Me)(W:List Wr)(xs:List Me):∀n,(Yu es W xs n).length=es.length
 | 0=>rfl
 | n+1=>by unfold Yu;rw[bM,zI es W xs n]
theorem UP(es:List Me)(W:List Wr)(xs a:List Me):∀n,n<=xs.length->Yu es W (xs++a) n=Yu es W xs n
 | 0,_=>rfl
 | n+1,h=>by
  unfold Yu;rw[UP es W xs a n a_];unfold fX;rw[cb a_]
theorem Bk7 {f n b m:Int}(h0:0<=f)(hf:f<=n)(o:n<f+m)(a:n<=281474976710655)(b0:0<=b)(b1:b<=255)(u:1<=m)(m1:m<=4):EOk ⟨1,f,m,b,0,0,bl⟩ 1 n:=by
 unfold EOk Es;rw[aI];refine⟨?_,?_,hf,by show n-m<f;omega⟩
 ·unfold jg qY
  simp only[aV,Fk];refine⟨⟨h0,a_⟩,⟨b0,b1⟩,⟨c_,c_⟩,?_⟩;simp[Fk];omega
 ·unfold iv
  simp only[aV,Fk];exact⟨⟨c_,c_⟩,⟨c_,c_⟩,⟨c_,c_⟩,⟨c_,c_⟩,a_,a⟩
def UQ(g:Gm)(xs:List Me):Prop:=∀x∈xs,meR g x=true
section
variable (A:Bu disp)(hK:10000<K){W:List Wr}(fb:0<W.length->F b)(hL:W.length<=4)
include A hK fb hL
theorem A9f{s:EV}{xs:List Me}(hx:W.length<=xs.length)(fq:0<xs.length->F q)(a:Co)(mo:UQ a.S.g xs)(hw:∀w∈W,kv a.S.g w=true)(hl:(a.es.length:Int)=a.S.g.B):∀(f i:Nat) (O:Ab) (Y:Co),W.length-i<f->i<=W.length->E1 h O B X F Y->j9 O v b W->FC O s q xs->Y=a.ku (Yu a.es W xs i) ->
 Ok (Jt (Ag TT disp K d false) (Ag TT disp K d true) K f (.ptr B.c 0) s v (I W.length) (I i) O) fun v h'=>v=I 0/\E1 h h' B X F (a.ku (Yu a.es W xs W.length)):=by
 intro f;induction f with
 | zero=>intro i O Y hf;omega
 | succ f ih=>
  intro i O Y hf hi c1 Wt P e;rw[Jt];simp only[I,Ac];by_cases H:i<W.length
  ·have:decide ((i:Int)<(W.length:Int))=true:=by simp;omega
   simp only[this,Aa,MY];rw[Wt.at H];have wf:=Wt.wf _ (bI H);have wh:=hw _ (bI H);have wb:fB W i=W[i].block.toNat:=by unfold fB;rw[aD H];rfl
   generalize W[i]=w at wf wh wb⊢;have wl:=Wr.len wf;unfold kv at wh;simp only[aV,aS]at wh
   try simp only[Aa]
   rw[xA];refine Ok.mk rfl wl fun h3 V e3 _=>?_
   have c3:=c1.trans (c1.C.Xe V);have lc:=c3.hb _ _ c3.C.core;have l3:=c3.hb _ _ e3;have hq:0<xs.length:=a_
   have o:=P.row.frame (h':=h3) fun y=>V.get _ (c1.hb _ _ (P.row.block y)) id
   have lq:=c3.hb _ _ (o.block hq);have u:i<xs.length:=a_
   rw[Hl lc,c3.C.jc];simp only[Aa,As];rw[Hl l3,Aj e3 rfl (v:=I w.block) rfl];simp only[Aa,As];have ix:=o.ix u .i64;rw[ix,Hl lq,Cp (o.block hq) rfl (tR xs u)];simp only[Aa,As];have rg:=P.rng _ (bI u);have mr:=mo _ (bI u);have xi:fX xs i=xs[i]:=by unfold fX;rw[aD u];rfl
   generalize xs[i]=x at rg mr xi⊢;have CL:=c3.C.lift;have ms:=wK (K:=K) CL.sm CL.map CL.hb (x:=x) (fun _=>rg) w.block;have el:Y.es.length=a.es.length:=by rw[e];exact zI _ _ _ _
   have eg:Y.S.g=a.S.g:=by rw[e];rfl
   have sf:mI Y.S.g Y.es w.block x=(Y.es.set (fB W i) x,0):=by
    unfold mI;rw[aI ⟨wh.1,a_⟩,eg,aI mr,wb]
   rw[sf]at ms;refine Ok.bC (S:=fun i=>i=B.ml\/i=B.ll) ms (fun _ _ p=>p.2.2.1) ?_;rintro _ ay h6 s3 ⟨rfl,m6,_,ad⟩ J ae _;have Q:=c3.C.DT (m6.frame (J.get _) (J.get _) (J.get _)) ae (J.hb ad);simp only[MX,Ac];rw[Ch,show((i:Nat):Int)+1=((i+1:Nat):Int) from a_];have U:∀j,F j->h6.get j=O.get j:=fun j hj=>by
    have l:=c1.C.M.lt _ (.inl hj);rw[Q.k.get _ (aM l V.next) fun y=>y hj,V.get _ l id]
   refine ih (i+1) h6 _ a_ a_ (c3.trans Q) (Wt.frame fun y=>U _ (fb y)) ⟨P.row.frame fun y=>U _ (fq y),P.rng⟩ ?_;rw[e];show a.ku ((Yu a.es W xs i).set (fB W i) x)=_;rw[<-xi];rfl
  ·have:decide ((i:Int)<(W.length:Int))=false:=by simp;omega
   have ei:i=W.length:=a_
   subst ei;simp only[this,Aa,Wh];exact .ret ⟨rfl,e▸c1⟩
def Bud(h h':Ab)(B:Cb)(X:Co)(F:Nat->Prop)(a:Co)(L:List (List Nat))(W:List Wr):Prop:=∃Z mt',E1 h h' B X F Z/\Cc (fun _=>False) Z (oN L W W.length) mt'/\Sq Z/\Z.S.g=a.S.g/\Z.gen=a.gen/\Z.ep=a.ep/\Z.st=a.st/\Z.nx=a.nx+W.length/\a.S.free-W.length<=Z.S.free
theorem Bar {L:List (List Nat)}(hd:22<=d)(af:∀j,F j->j<h.next)(o:Co)(n0:1<=o.nx)(ay:o.ep=1)(hw:∀w∈W,kv o.S.g w=true)(hb:(o.es.length:Int)=o.S.g.B/\o.S.g.B<=256)(b5:4<=o.S.free)(b6:o.nx+4<=281474976710655):∀(f i:Nat) (u:Ab) (Y:Co) (s:EV) (q:Nat) (xs:List Me) (mt:Int->Int),W.length-i<f->i<=W.length->xs.length=i->E1 h u B X F Y->Cx u B Y (fun j=>F j\/(0<xs.length/\j=q))->(0<xs.length->h.next<=q)->j9 u v b W->FC u s q xs->Y.es=o.es->Y.S.g=o.S.g->Y.gen=o.gen->Y.ep=o.ep->Y.st=o.st->Y.nx=o.nx+i->o.S.free-i<=Y.S.free->UQ o.S.g xs->Cc (fun _=>False) (Y.ku (Yu o.es W xs i)) (oN L W i) mt->Sq (Y.ku (Yu o.es W xs i)) ->
 Ok (Iv (Ag TT disp K d false) (Ag TT disp K d true) K f (.ptr B.c 0) v (I o.nx) s v (I W.length) (I i) u) fun v h'=>v=I 0/\Bud h h' B X F o L W:=by
 intro f;induction f with
 | zero=>intro i u Y s q xs mt hf;omega
 | succ f ih=>
  intro i u Y s q xs mt hf hi b8 c1 C1 hq Wt P eE eG ag O ah eN eF mo cc sq;rw[Iv];simp only[I,Ac];have a2:∀j,F j->j<u.next:=fun j hj=>c1.C.M.lt _ (.inl hj)
  by_cases J:i<W.length
  ·have:decide ((i:Int)<(W.length:Int))=true:=by simp;omega
   simp only[this,Aa,NA];rw[Wt.at J];have wf:=Wt.wf _ (bI J);have wh:=hw _ (bI J);have wb:fB W i=W[i].block.toNat/\fY W i=W[i].bytes:=by unfold fB fY;rw[aD J];exact⟨rfl,rfl⟩
   generalize W[i]=w at wf wh wb⊢;obtain⟨wb,wy⟩:=wb;have wl:=Wr.len wf;unfold kv at wh;simp only[aV,aS]at wh
   try simp only[Aa]
   rw[xA];refine Ok.mk rfl wl fun h3 x3 e3 _=>?_
   rw[Wt.Ip]
   try simp only[Aa]
   rw[Aj e3 rfl (v:=I w.block) rfl]
   try simp only[Aa]
   rw[Cp e3 rfl (show Ou w.cells 1 32=some (Be w.bytes) by
    rw[F9 a_];unfold Wr.cells;rw[List.drop_succ_cons,dE,bS (by rw[Bi,wf.1];omega)])]
   have fe:=FA 1 o.nx W.length w.block wf.1;rw[<-En.Jq]at fe;rw[show(EV.int .i64 1)=I 1 from rfl,show(EV.int .i64 o.nx)=I o.nx from rfl,Ay fe];have C3:=(C1.Xe x3).C;have ek:EOk ⟨1,o.nx,W.length,w.block,0,0,w.bytes⟩ Y.ep Y.nx:=by
    rw[O,ay,eN];exact Bk7 a_ a_ a_ a_ a_ a_ a_ a_
   have p0:=Bta A hK hd (⟨wf.1,wf.2⟩:(⟨1,o.nx,W.length,w.block,0,0,w.bytes⟩:En).Wf) C3 cc ek a_ a_;refine Ok.Am p0 ?_;rintro _ h4 ⟨x,Z,ai,rfl,c4,cz,pt,eZ⟩;have Q:E1 u h4 B Y (fun j=>F j\/(0<xs.length/\j=q)) Z:=(C1.Xe x3).trans c4;have aj:E1 h h4 B X F Z:=c1.trans (Q.less fun j=>.inl);have rg:=pt.rg;simp only[Aa];refine Ok.mk rfl rfl fun h5 x5 e5 _=>?_
   have U:=aj.trans (aj.C.Xe x5);have V:=Q.trans (Q.C.Xe x5);have al:∀j,(F j\/(0<xs.length/\j=q))->j<u.next->h5.get j=u.get j:=fun j hj l=>V.k.get _ l fun y=>y hj
   simp only[I,Ac,aB,aA,Aa,M_];rw[Cp e5 rfl (Ak (n:=6) rfl)];have ao:=P.row.frame (h':=h5) fun y=>al _ (.inr ⟨y,rfl⟩) (c1.hb _ _ (P.row.block y))
   have aq:=U.hb;refine Ml (z:=[.int .i64 0,.int .i64 0,.int .i64 0,.int .i64 0,.int .i64 0,.int .i64 0]) (v:=.agg x.cells) ao aq rfl rfl rfl a_ a_ fun h6 aw cy c6=>?_
   have a4:=c6.hb aq;have C6:=V.C.uh c6 (fun j hj hl=>.inr ⟨hj.1,hj.2⟩) a4;have a5:Cx h6 B Z (fun j=>F j\/(0<(xs++[x]).length/\j=h5.next+1)):=C6.less fun j hj=>by
    rcases hj with hj|⟨_,rfl⟩
    ·exact .inl (.inl hj)
    ·exact .inr ⟨a_,a_⟩
   have ax:Kf F h5 h6:=c6.mono fun j hj y=>by
    have a:=af j y;have b:=hq hj.1;have e:=hj.2;omega
   have a6:E1 h h6 B X F Z:=U.trans ⟨C6.less fun j hj=>.inl (.inl hj),ax,Ck.refl _⟩;have a7:∀j,F j->h6.get j=u.get j:=fun j hj=>by
    have l:=a2 j hj;have l5:=aM l V.k.next
    rw[ax.get _ l5 (fun y=>y hj)];exact al _ (.inl hj) l
   simp only[MZ,Ac];rw[Ch,show((i:Nat):Int)+1=((i+1:Nat):Int) from a_];have lx:(xs++[x]).length=xs.length+1:=by simp
   have bx:=U.k.next
   have ll:=pt.lv (by show ¬(1:Int)=2;decide);have pg:Z.S.g=Y.S.g:=pt.g;have pn:Z.gen=Y.gen/\Z.ep=Y.ep/\Z.nx=Y.nx+1/\Z.st=Y.st:=pt.nm;have pf:Y.S.free-1<=Z.S.free:=pt.free;have ps:x.seq=Y.nx:=pt.sq;have sl:=zI o.es W xs i;have jl:fB W i<(Yu o.es W xs i).length:=by rw[sl,wb];omega
   have cs:=Cc.set (G:=fun _=>False) cz (j:=fB W i) jl (x:=x) (bs:=w.bytes) (.inr ll) (by show x.seq<Z.nx;omega) fun _=>.inr
   have mx:meR o.S.g x=true:=by
    have:=ll.meR;rw[show((Z.ku (Yu o.es W xs i)).S.g)=Z.S.g from rfl,pg,eG]at this;exact this
   have ex:Yu o.es W (xs++[x]) (i+1)=(Yu o.es W xs i).set (fB W i) x:=by
    show(Yu o.es W (xs++[x]) i).set (fB W i) (fX (xs++[x]) i)=_;rw[UP _ _ _ _ _ a_];congr 1;unfold fX;rw[cp a_,show i-xs.length=0 from a_];rfl
   have a9:oN L W (i+1)=(oN L W i).set (fB W i) w.bytes:=by
    show(oN L W i).set (fB W i) (fY W i)=_;rw[wy]
   have bb:Cc (fun _=>False) (Z.ku (Yu o.es W (xs++[x]) (i+1))) (oN L W (i+1)) ai:=by rw[ex,a9];exact cs
   have bf:Sq (Z.ku (Yu o.es W (xs++[x]) (i+1))):=by
    rw[ex];refine Sq.set (X:=Y.ku (Yu o.es W xs i)) sq cc.sq rfl fun _=>?_
    show Y.nx<=x.seq;omega
   have:=ih (i+1) h6 Z (.slice (h5.next+1) 0 (xs.length+1) (xs.length+1) true) (h5.next+1) (xs++[x]) ai a_ a_ a_ a6 a5 (fun _=>by omega) (Wt.frame fun y=>a7 _ (fb y)) ⟨by rw[lx,cM,dW,show([x].map Me.cells).flatten=(EV.agg x.cells).cells by simp[EV.cells]];exact aw,fun z H=>by
    rcases bN.1 H with H|H
    ·exact P.rng z H
    ·rw[aP.1 H];exact rg⟩ (eZ.trans eE) (pg.trans eG) (pn.1.trans ag) (pn.2.1.trans O) (pn.2.2.2.trans ah) a_ a_ (fun z H=>by
    rcases bN.1 H with H|H
    ·exact mo z H
    ·rw[aP.1 H];exact mx) bb bf
   exact this
  ·have:decide ((i:Int)<(W.length:Int))=false:=by simp;omega
   simp only[this,Aa,Wj];rw[Wt.Ip];have ei:i=W.length:=a_
   have bj:∀w∈W,kv Y.S.g w=true:=by rw[eG];exact hw
   have ws:=A9f A hK (X:=Y) (F:=fun j=>F j\/(0<xs.length/\j=q)) (v:=v) (b:=b) (W:=W) (fun y=>.inl (fb y)) hL (d:=d) (s:=s) (q:=q) (xs:=xs) a_ (fun y=>.inr ⟨y,rfl⟩) Y (by rw[eG];exact mo) bj (by rw[eE,eG];exact hb.1) K 0 u Y a_ a_ (E1.refl C1) Wt P rfl;refine Ok.mono ws ?_;rintro _ h2 ⟨rfl,c2⟩;subst ei;rw[eE]at c2;exact⟨rfl,_,mt,c1.trans (c2.less fun j=>.inl),cc,sq,eG,ag,O,ah,eN,eF⟩
end
end
theorem Bm8{W:List Wr}:oM g W=true↔(∀w∈W,kv g w=true)/\1<=W.length/\W.length<=4:=by
 unfold oM;simp only[aV,dS,aS];constructor
 ·rintro⟨a,b,c⟩;exact⟨a,a_,a_⟩
 ·rintro⟨a,b,c⟩;exact⟨a,a_,a_⟩
theorem A67(A:Bu disp)(hK:3000000<K){L:List (List Nat)}{W:List Wr}(fb:0<W.length->F b)(hL:W.length<=2000000)(hd:28<=d)(C:Cx h B X F)(J:Jc (fun _=>False) X L mt)(hg:X.gen+1100<=281474976710655)(o:X.nx+70000<=281474976710655)(H:j9 h v b W):
 Ok (Ag TT disp K d false 31 [.ptr B.c 0,v] h) fun v h'=>∃(e:Int) (Y:Co) (O:List (List Nat)) (mt':Int->Int),v=I e/\E1 h h' B X F Y/\Jc (fun _=>False) Y O mt'/\iL X Y /\
 ((oM X.S.g W=false/\e=13/\Y=X/\O=L)\/(oM X.S.g W=true/\e=0/\O=oN L W W.length/\(X.S.g.E7<=X.prs->Y.gen=X.gen/\Y.nx=X.nx+W.length))):=by
 obtain⟨e,rfl⟩:=d_ d;rw[Art A a_];simp only[ND,Xr,Aa];rw[H.Ip];refine Ok.Am (A99 (K:=K) fb hL K 0 h a_ a_ (by simp) C H) ?_;rintro _ h2 ⟨rfl,x2⟩;have c2:=C.Xe x2;cases hok:oM X.S.g W with
 | false=>
  simp only[Aa];exact .ret ⟨13,X,L,mt,rfl,c2,J,iL.refl X,.inl ⟨by trivial,rfl,rfl,rfl⟩⟩
 | true=>
 obtain⟨hw,ad,P⟩:=Bm8.1 hok;simp only[Aa,NC];refine Ok.Am (UK A a_ c2.C J.c J.sq J.fr a_ a_ (d:=e)) ?_;rintro _ V ⟨rfl,Y,mt',c3,Q,sy,r⟩;have a:=c2.trans c3;have mu:=r.UN Q;have s0:=J.c.c.sm.s0;have b1:=J.c.c.sm.b1;have b0:=J.c.c.sm.b0;have tn:=r.t.nx;have af:=r.t.gen;have yn:=Q.nm;have u:=r.t.g;have lb:=J.c.lb;simp only[I,Ac,aB,aA,Aa,NB];rw[a.C.lu];have W3:j9 V v b W:=H.frame fun y=>a.k.get _ (C.M.lt _ (.inl (fb y))) fun w=>w (fb y)
 rw[W3.Ip];refine(Bar A a_ (F:=F) (h:=h) fb P (L:=L) (d:=e) a_ (fun j hj=>C.M.lt _ (.inl hj)) Y yn.2.2 yn.2.1 (by rw[u];exact hw) (by rw[u,r.t.len];omega) a_ a_ K 0 V Y .Aq 0 [] mt' a_ a_ rfl a (a.C.less fun j hj=>hj.elim id fun y=>absurd y.1 (bT 0)) (fun y=>absurd y (bT 0)) W3 ⟨Ce.nil _ _ _ _,fun x o=>by cases o⟩ rfl rfl rfl rfl rfl (by simp) a_ (fun x o=>by cases o) Q sy).mono ?_;rintro _ h4 ⟨rfl,Z,U,c4,cz,sz,z1,z2,z3,z4,z5,z6⟩;refine⟨0,Z,_,U,rfl,c4,⟨cz,sz,by rw[z1,u];omega⟩,⟨z1.trans u,⟨z3.trans r.t.nm.1,z4.trans r.t.nm.2⟩,a_,a_⟩,.inr ⟨by trivial,rfl,rfl,fun hr=>?_⟩⟩;have:=r.same hr;subst this;exact⟨z2,z5⟩
structure Gv(g:Gm)(S:Mi)(i:Nat):Prop where
 f:A89 S
 gg:S.g=g
 mem:∀d,d<g.D.toNat->∀x∈S.ps d,0<=x/\x<i/\Vx (Fp g) (Ft g) x=false
 all:∀z:Nat,z<i->Vx (Fp g) (Ft g) z=false->0<=Bq g z->(z:Int)∈S.ps (Bq g z).toNat
theorem Gv.step(v:Gv g S i):Gv g (S.oX (Fp g) (Ft g) i) (i+1):=by
 have s:Sm g:=by rw[<-v.gg];exact v.f.calm.sm
 unfold Mi.oX;cases P:Vx (Fp g) (Ft g) (i:Int)with
 | true=>
  rw[aI rfl];refine⟨v.f,v.gg,fun d hd x u=>?_,fun z O o C=>?_⟩
  ·have:=v.mem d hd x u;exact⟨this.1,a_,this.2.2⟩
  ·rcases dQ z i with y|y
   ·exact v.all z y o C
   ·have:z=i:=a_
    subst this;rw[P]at o;cases o
 | false=>
  rw[aG c_];have e:(S.iP i).ps=(Wv g g.D.toNat S.ps i).2:=by show(Wv S.g S.g.D.toNat S.ps i).2=_;rw[v.gg]
  have fresh:=v.f.iP i;have nm:∀d,d<g.D.toNat->(i:Int) ∉ S.ps d:=fun d hd hm=>by have:=v.mem d hd _ hm;omega
  have U:hasB S.ps g.D.toNat i=false:=by
   cases h:hasB S.ps g.D.toNat i with
   | false=>rfl
   | true=>
    obtain⟨d,hd,hm⟩:=Jm.1 h;exact absurd hm (nm d hd)
  by_cases J:Bq g i<0
  ·have e2:(S.iP i).ps=S.ps:=by rw[e];unfold Wv;rw[aI J]
   refine⟨fresh,v.gg,fun d hd x u=>?_,fun z O o C=>?_⟩
   ·rw[e2]at u
    have:=v.mem d hd x u;exact⟨this.1,a_,this.2.2⟩
   ·rw[e2]
    rcases dQ z i with y|y
    ·exact v.all z y o C
    ·have:z=i:=a_
     subst this;omega
  ·have H:(Bq g i).toNat<g.D.toNat:=by
    rcases I8 s (i:Int)with y|⟨_,y,_⟩<;>omega
   have len:(S.ps (Bq g i).toNat).length<g.Z.toNat:=by
    have nd:(S.ps (Bq g i).toNat++[(i:Int)]).Nodup:=by
     rw[List.nodup_append];refine⟨by have:=v.f.calm.nd _ (by rw[v.gg];exact H);exact this,by simp,fun a V b hb y=>?_⟩;rw[aP.1 hb]at y;subst y;exact nm _ H V
    have:=TQ s (d:=(Bq g i).toNat) nd fun w hw=>by
     rcases bN.1 hw with hw|hw
     ·have:=(v.f.calm.wf.ps (Bq g i).toNat (by rw[v.gg];exact H) w hw).1
      rw[v.gg]at this;exact this
     ·rw[aP.1 hw];omega
    rw[aF,List.length_singleton]at this;omega
   have O:=s.z0;have e2:(S.iP i).ps=upd S.ps (Bq g i).toNat (S.ps (Bq g i).toNat++[(i:Int)]):=by
    rw[e];unfold Wv;rw[aG J,aG (by rw[U];decide),aI len]
   refine⟨fresh,v.gg,fun d hd x u=>?_,fun z O o C=>?_⟩
   ·rw[e2]at u
    unfold upd at u;split at u
    next Q=>
     rcases bN.1 u with u|u
     ·have:=v.mem _ H x u;exact⟨this.1,a_,this.2.2⟩
     ·rw[aP.1 u];exact⟨a_,a_,P⟩
    ·have:=v.mem d hd x u;exact⟨this.1,a_,this.2.2⟩
   ·rw[e2]
    unfold upd;rcases dQ z i with y|y
    ·have m:=v.all z y o C
     split
     next Q=>
      rw[Q]at m;exact List.mem_append_left _ m
     ·exact m
    ·have:z=i:=a_
     subst this;rw[aI rfl];exact List.mem_append_right _ (aP.2 rfl)
theorem UR(a:rtB g=true):∀n,Gv g ((Mi.new g).jR (Fp g) (Ft g) n) n
 | 0=>⟨Bhn a,rfl,fun d _ x o=>(by cases o),fun z u=>absurd u (cC _)⟩
 | n+1=>(UR a n).step
theorem Bka(o:rtB g=true):∀i,i<3->Bq g (Fp g i)=i/\Bq g (Ft g i)=i/\¬Fp g i=Ft g i:=by
 have s:=Jp o;have C:=xD o;have:=s.d0;have:=s.p0;have:=s.z0;have d0:=Sl s (i:=0) (k:=0);have d1:=Sl s (i:=1) (k:=0);have d2:=Sl s (i:=2) (k:=0);have o0:=Sl s (i:=0) (k:=1);have o1:=Sl s (i:=1) (k:=1);have u:=Sl s (i:=2) (k:=1);intro i H;rcases(show i=0\/i=1\/i=2 from a_)with rfl|rfl|rfl
 ·have a:Fp g 0=0:=rfl
  have b:Ft g 0=1:=rfl;rw[a,b];refine⟨?_,?_,c_⟩
  ·rw[<-d0];congr 1;omega
  ·rw[<-o0];congr 1;omega
 ·have a:Fp g 1=g.Z:=rfl
  have b:Ft g 1=g.Z+1:=rfl;rw[a,b];refine⟨?_,?_,a_⟩
  ·rw[<-d1];congr 1;omega
  ·rw[<-o1];congr 1;omega
 ·have a:Fp g 2=2*g.Z:=rfl
  have b:Ft g 2=2*g.Z+1:=rfl;rw[a,b];refine⟨?_,?_,a_⟩
  ·rw[<-d2];congr 1;omega
  ·rw[<-u];congr 1
def pR(g:Gm):List (List Nat):=List.replicate g.B.toNat []
theorem Blk(J:rtB g=true):Jc E (Co.start g) (pR g) (fun _=>-1):=by
 have s:=Jp J;have v:=UR J (g.D*g.Z).toNat;have eS:(Co.start g).S=(Mi.new g).jR (Fp g) (Ft g) (g.D*g.Z).toNat:=rfl;rw[<-eS]at v;have ar:=Bka J;have hg:(Co.start g).S.g=g:=v.gg;have hF:∀z,arB (Co.start g) z->Vx (Fp g) (Ft g) z=true:=fun z ⟨i,C,h⟩=>by
  obtain⟨a,b,_⟩:=ar i C;refine vY.2 ⟨i,C,?_⟩;have U:∀w:Int,Bq g w=i->¬w = -1:=fun w hw y=>by
   have:=Jb s (z:=w);omega
  exact h.imp (fun y=>⟨U _ a,y⟩) fun y=>⟨U _ b,y⟩
 have c:Cc E (Co.start g) (pR g) (fun _=>-1):=by
  refine⟨v.f.calm,rfl,fun i C=>by rw[hg];exact ar i C,fun z u=>?_,fun i _=>?_,fun h=>absurd v.f.cl.1 h,?_,?_,fun b x bs H hl=>?_,fun x H=>?_,⟨cN _,rfl,cN _⟩,.inl rfl⟩
  ·have o:=hF z u
   have z0:0<=z:=by
    obtain⟨i,C,h⟩:=u;obtain⟨a,b,_⟩:=ar i C;rcases h with h|h
    ·exact Jb s (by rw[h,show(Co.start g).cur i=Fp g i from rfl];omega)
    ·exact Jb s (by rw[h,show(Co.start g).Bt i=Ft g i from rfl];omega)
   refine⟨by rw[v.f.cl.1];omega,by rw[v.f.cl.2];omega,fun d hd hm=>?_,by rw[v.f.zs];decide⟩;rw[hg]at hd;have:=(v.mem d hd z hm).2.2;rw[o]at this;cases this
  ·rw[v.f.zs];exact⟨c_,fun _=>rfl⟩
  ·show(pR g).length=(List.replicate g.B.toNat (Me.nil 0)).length
   unfold pR;simp
  ·rw[hg];show(List.replicate g.B.toNat (Me.nil 0)).length=_;simp
  ·have o:x=Me.nil 0:=bO (bh (show(List.replicate g.B.toNat (Me.nil 0))[b]? = some x from H))
   have h2:bs = []:=bO (bh (show(List.replicate g.B.toNat [])[b]? = some bs from hl));exact .inl ⟨o,h2⟩
  ·have o:x=Me.nil 0:=bO (show x∈List.replicate g.B.toNat (Me.nil 0)from H)
   rw[o];show(0:Int)<1;decide
 refine⟨c,fun b b' x x' H _ o=>?_,?_⟩
 ·have e:x=Me.nil 0:=bO (bh (show(List.replicate g.B.toNat (Me.nil 0))[b]? = some x from H))
  rw[e]at o;cases o
 ·have nc:∀z,(Co.start g).closed z=true->False:=fun z u=>by
   obtain⟨a,b⟩:=c.rng u;obtain⟨V,_,_,_,a5,O⟩:=El.1 u;rw[hg]at b V O;have P:Vx (Fp g) (Ft g) z=false:=a5;have m:=v.all z.toNat a_ (by rw[show((z.toNat:Nat):Int)=z from a_];exact P) (by rw[show((z.toNat:Nat):Int)=z from a_];exact V);rw[show((z.toNat:Nat):Int)=z from a_]at m;have Q:(Bq g z).toNat<g.D.toNat:=by
    rcases I8 s z with y|⟨_,y,_⟩<;>omega
   rw[Jm.2 ⟨_,Q,m⟩]at O;cases O
  have p:=c.UE fun z u=>(nc z u).elim
  have q:=c.UF.1;have s0:=s.s0;have d0:=s.d0;have p0:=s.p0;rw[hg]at p q⊢;have ag:4<=g.E7:=by
   have:=dX (show 0<=g.D from a_) p0;unfold Gm.E7;omega
  have:g.S*4<=g.S*F2 (Co.start g).S.ps g.D.toNat:=bU a_ a_;omega
end Go.Ev
