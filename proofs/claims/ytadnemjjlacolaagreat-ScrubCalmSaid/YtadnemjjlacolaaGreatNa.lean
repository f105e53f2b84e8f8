import Derived.Test.YtadnemjjlacolaaGreatCa
set_option linter.all false
namespace Go.Ev
open Go.Proofs
set_option maxRecDepth 100000
variable {ps c_:Nat->List Int}{K b d i j k n q:Nat}{g:Gm}{p:Nat->Bool}{f Br cur:Nat->Int}{S T:Mi}{X Y Z:Co}{mt mt':Int->Int}{e:En}{D:Jo}{v:EV}{h:Ab}{bl:List Nat}{B:Cb}{F:Nat->Prop}{disp:Nat->Option FT}
theorem yX(ps:Nat->List Int)(Pf:Int)(n:Nat):(Ei ps Pf n = -1->∀d,d<n->(d:Int)=Pf)/\(0<=Ei ps Pf n->Ei ps Pf n<n/\¬Ei ps Pf n=Pf/\∀d,d<n->¬(d:Int)=Pf->(ps d).length<=(ps (Ei ps Pf n).toNat).length):=by
 rcases vH ps Pf n with⟨a,b⟩|⟨E,o,u,C⟩
 ·exact⟨fun _=>b,fun y=>by omega⟩
 ·exact⟨fun y=>by omega,fun _=>⟨o,u,fun d hd hb=>(C d hd).resolve_left hb⟩⟩
theorem pA(o:0<n)(k:Int):k<=Ft ps n↔2*k<=Od ps n/\∀d,d<n->k+(ps d).length<=Od ps n:=by
 obtain⟨i1,i2⟩:=yX ps (-1) n;obtain⟨b1,b2,b3⟩:=yY ps (-1) n;have a:0<=Ei ps (-1) n:=by
  rcases b3 with y|y
  ·have:=i1 y 0 o;omega
  ·exact y
 obtain⟨u,G,C⟩:=i2 a;have E:kM ps n (Ei ps (-1) n)=(ps (Ei ps (-1) n).toNat).length:=by
  unfold kM;rw[aI ⟨a,u⟩]
 unfold Ft;rw[E];constructor
 ·intro h
  refine⟨by omega,fun d hd=>?_⟩;have:=C d hd (by omega);omega
 ·rintro⟨H,h2⟩
  have:=h2 (Ei ps (-1) n).toNat (by omega);omega
theorem sX {ps:Nat->List Int}{d:Nat}{l:List Int}:∀n,(Od (upd ps d l) n:Int)=Od ps n+(if d<n then(l.length:Int)-(ps d).length else 0)
 | 0=>by unfold Od;simp
 | n+1=>by
  rw[Ji,Ji];have ih:=sX (ps:=ps) (d:=d) (l:=l) n;by_cases h:n=d
  ·subst h
   rw[aG (bN _)]at ih;rw[aI (aO _),show upd ps n l n=l from aI rfl];omega
  ·rw[show upd ps d l n=ps n from aG h]
   by_cases h2:d<n
   ·rw[aI h2]at ih;rw[aI (by omega)];omega
   ·rw[aG h2]at ih;rw[aG (by omega)];omega
theorem SY {ps:Nat->List Int}{a b c:Nat}(o:a≠b)(u:a≠c)(C:b≠c):∀n,a<n->b<n->c<n->(ps a).length+(ps b).length+(ps c).length<=Od ps n
 | 0,h,_,_=>absurd h (cI _)
 | n+1,H,hb,J=>by
  rw[Ji];by_cases E:a=n
  ·subst E;have:=vI (ps:=ps) C a (by omega) (by omega);omega
  ·by_cases h2:b=n
   ·subst h2;have:=vI (ps:=ps) u b (by omega) (by omega);omega
   ·by_cases G:c=n
    ·subst G;have:=vI (ps:=ps) o c (by omega) (by omega);omega
    ·have:=SY (ps:=ps) o u C n (by omega) (by omega) (by omega);omega
theorem yZ:∀n,(∀d,d<n->(ps d).length<=(c_ d).length)->Od ps n<=Od c_ n
 | 0,_=>aE _
 | n+1,h=>by
  rw[Ji,Ji];have:=yZ n fun d hd=>h d (by omega)
  have:=h n (aO _);omega
theorem y8:∀n,d<n->(∀e,e<n->(ps e).length<=(c_ e).length)->Od ps n+(c_ d).length<=Od c_ n+(ps d).length
 | 0,h,_=>absurd h (cI _)
 | n+1,hd,h=>by
  rw[Ji,Ji];rcases cF.1 hd with y|y
  ·have:=y8 n y fun e he=>h e (by omega)
   have:=h n (aO _);omega
  ·subst y
   have:=yZ (ps:=ps) (c_:=c_) d fun e he=>h e (by omega)
   omega
theorem Bdw{x y:Int}{P:Int->Prop}(s:Sm g)(w:∀d,d<g.D.toNat->∀x∈ps d,Bp g x=d/\P x)(h:jL ps g.D.toNat=some (x,y,c_)):Ft ps g.D.toNat-1<=Ft c_ g.D.toNat:=by
 obtain⟨a,b,E,hb,u,H,J,G,O,fb,_,_⟩:=sY w h;have:=s.d0;obtain⟨_,Q⟩:=yX ps (-1) g.D.toNat;obtain⟨_,U⟩:=yX ps a g.D.toNat;have C:=(Q (by omega)).2.2;have mb:=(U (by omega)).2.2;rw[O]at C;rw[fb]at mb;simp only[bF]at C mb;have la:(ps a).length=(c_ a).length+1:=by rw[H];rfl
 have lb:(ps b).length=(c_ b).length+1:=by rw[J];rfl
 have e:∀d,(c_ d).length=(upd (upd ps a (c_ a)) b (c_ b) d).length:=fun d=>by
  unfold upd;by_cases o:d=b
  ·rw[aI o,o]
  ·rw[aG o]
   by_cases h2:d=a
   ·rw[aI h2,h2]
   ·rw[aG h2,G d h2 o]
 have es:Od c_ g.D.toNat=Od (upd (upd ps a (c_ a)) b (c_ b)) g.D.toNat:=by
  unfold Od;congr 1;apply cm;intro d _;exact e d
 have s1:=sX (ps:=upd ps a (c_ a)) (d:=b) (l:=c_ b) g.D.toNat;have s2:=sX (ps:=ps) (d:=a) (l:=c_ a) g.D.toNat;rw[show upd ps a (c_ a) b=ps b from aG (cY u),aI hb]at s1;rw[aI E]at s2;obtain⟨p1,V⟩:=(pA (ps:=ps) (n:=g.D.toNat) (by omega) _).1 (cO (Ft ps g.D.toNat));refine(pA (by omega) _).2 ⟨by omega,fun d hd=>?_⟩;have pd:=V d hd;by_cases o:d=a
 ·subst o;omega
 ·by_cases h2:d=b
  ·subst h2;omega
  ·rw[G d o h2]
   have m1:=C d hd (by omega);have m2:=mb d hd (by omega);have s3:(ps a).length+(ps b).length+(ps d).length<=Od ps g.D.toNat:=SY u (cY o) (cY h2) _ E hb hd;omega
theorem Bdi(a:0<n)(h:∀d,d<n->(ps d).length<=(c_ d).length):Ft ps n<=Ft c_ n:=by
 obtain⟨p1,o⟩:=(pA (ps:=ps) a _).1 (cO (Ft ps n));refine(pA a _).2 ⟨?_,fun d hd=>?_⟩
 ·have:=yZ n h;omega
 ·have:=y8 n hd h;have:=o d hd;omega
def cn(p:Nat->Bool):Nat->Nat
 | 0=>0
 | n+1=>cn p n+(if p n=true then 1 else 0)
theorem vJ {q:Nat->Bool}:∀n,(∀z,z<n->p z=true->q z=true)->cn p n<=cn q n
 | 0,_=>aE _
 | n+1,h=>by
  have o:=vJ n fun z u=>h z (by omega)
  have:=h n (aO _);unfold cn;split<;>split
  all_goals first|omega|(rename_i a b;exact absurd (this a) b)
theorem mL {p q:Nat->Bool}:∀n,cn (fun z=>p z||q z) n<=cn p n+cn q n
 | 0=>aE _
 | n+1=>by
  have ih:=mL (p:=p) (q:=q) n;unfold cn;cases p n<;>cases q n<;>simp<;>omega
theorem y9:∀n,(∀z,z<n->p z=true)->cn p n=n
 | 0,_=>rfl
 | n+1,h=>by
  unfold cn;rw[y9 n fun z a=>h z (by omega),aI (h n (aO _))]
theorem SZ(a:Int):∀n:Nat,cn (fun z=>decide ((z:Int)=a)) n<=if a<n then 1 else 0
 | 0=>by unfold cn;omega
 | n+1=>by
  have o:=SZ a n;unfold cn;by_cases h:(n:Int)=a
  ·rw[aI (aM h),aI (by omega)]
   rw[aG (by omega)]at o;omega
  ·rw[aG (by simpa using h)]
   split at o<;>split<;>omega
theorem kN(n:Nat):∀l:List Int,cn (fun z=>decide ((z:Int)∈l)) n<=l.length
 | []=>by
  have:cn (fun z=>decide ((z:Int)∈([]:List Int))) n<=cn (fun _=>false) n:=vJ n fun z _ h=>by simp at h
  have z:∀n,cn (fun _=>false) n=0:=fun n=>by induction n with
   | zero=>rfl
   | succ n o=>unfold cn;rw[o];rfl
  rw[z]at this;exact this
 | a::l=>by
  have o:=kN n l;have C:cn (fun z=>decide ((z:Int)∈a::l)) n<=cn (fun z=>decide ((z:Int)=a)||decide ((z:Int)∈l)) n:=vJ n fun z _ h=>by
   simp only[aV,bX]at h;simp only[dZ,aV];exact h
  have h2:=mL (p:=fun z=>decide ((z:Int)=a)) (q:=fun z=>decide ((z:Int)∈l)) n;have u:=SZ a n;rw[bG];split at u<;>omega
def sw(f:Nat->Int):Nat->Int
 | 0=>0
 | n+1=>sw f n+f n
theorem S_ {k:Nat->Int}:∀n,sw (fun z=>f z+k z) n=sw f n+sw k n
 | 0=>rfl
 | n+1=>by unfold sw;rw[S_ n];omega
theorem Btp(x:Me)(n:Nat):sw (fun z=>Vj (z:Int) x) n<=2:=by
 have key:∀n,sw (fun z=>Vj (z:Int) x) n<=(cn (fun z=>decide ((z:Int)∈[x.Al,x.Bf])) n:Nat):=fun n=>by
  induction n with
  | zero=>exact cO _
  | succ n o=>
   unfold sw cn Vj;split
   ·rename_i h
    rw[aI (by simp only[aV,bX,List.not_mem_nil,or_false];rcases h.2 with y|y;exact .inl y.symm;exact .inr y.symm)];unfold Vj at o;omega
   ·unfold Vj at o;split<;>omega
 have a:=key n;have b:=kN n [x.Al,x.Bf];have:([x.Al,x.Bf]:List Int).length=2:=rfl;omega
theorem TA:∀(es:List Me) (n:Nat),sw (fun z=>Js es (z:Int)) n<=2*es.length
 | [],n=>by
  have:∀n,sw (fun z=>Js [] (z:Int)) n=0:=fun n=>by
   induction n with
   | zero=>rfl
   | succ n a=>unfold sw;rw[a];rfl
  rw[this];simp
 | x::es,n=>by
  have a:=TA es n;have e:(fun z:Nat=>Js (x::es) (z:Int))=fun(z:Nat)=>Vj (z:Int) x+Js es (z:Int):=by funext z;rfl
  rw[e,S_,bG];have:=Btp x n;omega
theorem TB{k:Int}(h0:∀z,0<=f z):∀n,(∀z,z<n->p z=true->k<=2*f z)->k*(cn p n:Nat)<=2*sw f n
 | 0,_=>by unfold cn sw;simp
 | n+1,h=>by
  have a:=TB h0 n fun z o=>h z (by omega)
  have:=h n (aO _);have:=h0 n;unfold cn sw;split
  ·rename_i hp
   have:=h n (aO _) hp;rw[Int.natCast_add,Int.mul_add];simp;omega
  ·simp;omega
theorem y_(ps:Nat->List Int):∀n,((List.range n).flatMap ps).length=Od ps n
 | 0=>rfl
 | n+1=>by rw[dE,List.flatMap_append,aF,y_ ps n,Ji];simp
theorem Bgk(ps:Nat->List Int)(d:Nat):∀n,((List.range n).flatMap fun e=>if e=d then[]else ps e).length=Od (upd ps d []) n:=fun n=>y_ (upd ps d []) n
theorem Bbh(J:rtB g=true){closed:Int->Bool}{es:List Me}{ar op:List Int}(la:ar.length<=6)(lo:op.length<=2)(U:∀d:Nat,d<g.D.toNat->(ar.filter fun z=>decide (¬Bp g z=d)).length<=2*(g.D-1).toNat)
 (cover:∀z:Int,0<=Bp g z->closed z=true\/z∈ps (Bp g z).toNat\/z∈ar\/z∈op) (full:∀z,closed z=true->g.S<2*Js es z) (V:es.length=g.B.toNat) (few:Ft ps g.D.toNat<g.E5):False:=by
 have s:=Ja J;have:=s.d0;have:=s.d1;have:=s.z0;have:=s.z1;have:=s.s0;have:=s.b0;have:=s.p0;have sg:2*g.B<=g.S*g.segments:=by
  unfold rtB at J;simp only[aS,aV]at J;exact J.2.2
 obtain⟨N,hN⟩:=bA (dX (show 0<=g.D by omega) (show 0<=g.Z by omega));have H:∀z:Nat,z<N->0<=Bp g z/\Bp g z<g.D:=fun z E=>by
  rcases Ip s z with y|⟨a,b,_⟩
  ·unfold Bp at y
   rw[aG (by omega)]at y;have:0<=(z:Int)/g.Z:=Int.ediv_nonneg (by omega) (by omega);omega
  ·exact⟨a,b⟩
 have small:∀p:Nat->Bool,(∀z,z<N->p z=true->closed (z:Int)=true)->2*g.segments<=(cn p N:Nat)->False:=fun p hp hk=>by
  have h1:=TB (p:=p) (f:=fun z=>Js es (z:Int)) (k:=g.S+1) (fun z=>(pJ _ es).1) N fun z E y=>by have:=full z (hp z E y);omega
  have h2:=TA es N;rw[V]at h2;have h3:(g.S+1)*(2*g.segments)<=(g.S+1)*(cn p N:Nat):=bT hk (by omega);have h4:(g.S+1)*(2*g.segments)=2*(g.S*g.segments)+2*g.segments:=by rw[Int.add_mul,Int.mul_left_comm];omega
  have h5:0<g.segments:=by
   rcases gX 0 g.segments with y|y
   ·exact y
   ·have:=dX (show 0<=g.S by omega) (show 0<=-g.segments by omega)
    rw[Int.mul_neg]at this;omega
  omega
 have hs:2*g.segments<=g.least-2-2*(g.D*g.P):=by unfold Gm.segments;omega
 have ab:0<=g.D*g.P:=dX (by omega) (by omega);have hP:g.P<=g.D*g.P:=by have:=fK (show 1<=g.D by omega) (show 0<=g.P by omega);omega
 have e1:g.D*(g.Z-g.P-2)=g.D*g.Z-g.D*g.P-2*g.D:=by rw[Int.mul_sub,Int.mul_sub];omega
 have e2:(g.D-1)*(g.Z-g.P-2)=g.D*g.Z-g.D*g.P-2*g.D-(g.Z-g.P-2):=by rw[Int.sub_mul,e1];omega
 have n0:¬(g.E5<=Ft ps g.D.toNat):=by omega
 rw[pA (by omega)]at n0;by_cases c1:2*g.E5<=Od ps g.D.toNat
 ·
  obtain⟨d,hd,hc⟩:∃d,d<g.D.toNat/\(Od ps g.D.toNat:Int)<g.E5+(ps d).length:=by
   rcases fU (∃d,d<g.D.toNat/\(Od ps g.D.toNat:Int)<g.E5+(ps d).length)with y|y
   ·exact y
   ·refine absurd ⟨c1,fun d hd=>?_⟩ n0
    rcases gX (Od ps g.D.toNat:Int) (g.E5+(ps d).length)with z|z
    ·exact absurd ⟨d,hd,z⟩ y
    ·exact z
  let p:Nat->Bool:=fun z=>closed (z:Int)&&decide (¬Bp g z=d)
  let G:List Int:=(List.range g.Z.toNat).map fun(k:Nat)=>(d:Int)*g.Z+k
  let o:=(List.range g.D.toNat).flatMap fun e=>if e=d then[]else ps e
  let u:=ar.filter fun z=>decide (¬Bp g z=d)
  have all:cn (fun z=>p z||(decide ((z:Int)∈G)||(decide ((z:Int)∈o)||(decide ((z:Int)∈u)||decide ((z:Int)∈op))))) N=N:=y9 N fun z E=>by
   obtain⟨d0,d1⟩:=H z E;simp only[dZ,aV];by_cases C:Bp g z=d
   ·refine .inr (.inl (cW.2 ⟨((z:Int)%g.Z).toNat,dL.2 ?_,?_⟩))
    ·have:=Int.emod_lt_of_pos (z:Int) (show 0<g.Z by omega)
     have:=gR (z:Int) (show g.Z≠0 by omega);omega
    ·rcases Ip s z with y|⟨_,_,y,_⟩
     ·omega
     ·have:=gR (z:Int) (show g.Z≠0 by omega)
      have:=Int.mul_ediv_add_emod (z:Int) g.Z;rw[<-C,y,Int.mul_comm];omega
   ·rcases cover z d0 with y|y|y|y
    ·exact .inl (by show(closed (z:Int)&&decide (¬Bp g z=d))=true;rw[y,aM C];rfl)
    ·refine .inr (.inr (.inl (List.mem_flatMap.2 ⟨(Bp g z).toNat,dL.2 (by omega),?_⟩)))
     rw[aG (by omega)];exact y
    ·exact .inr (.inr (.inr (.inl (eJ.2 ⟨y,aM C⟩))))
    ·exact .inr (.inr (.inr (.inr y)))
  have o1:=mL (p:=p) (q:=fun z=>decide ((z:Int)∈G)||(decide ((z:Int)∈o)||(decide ((z:Int)∈u)||decide ((z:Int)∈op)))) N;have o2:=mL (p:=fun z:Nat=>decide ((z:Int)∈G)) (q:=fun z=>decide ((z:Int)∈o)||(decide ((z:Int)∈u)||decide ((z:Int)∈op))) N;have o3:=mL (p:=fun z:Nat=>decide ((z:Int)∈o)) (q:=fun z=>decide ((z:Int)∈u)||decide ((z:Int)∈op)) N;have o4:=mL (p:=fun z:Nat=>decide ((z:Int)∈u)) (q:=fun z=>decide ((z:Int)∈op)) N;have m0:=kN N G;have m1:=kN N o;have m2:=kN N u;have m3:=kN N op;have l0:G.length=g.Z.toNat:=by simp[G]
  have l1:o.length=Od (upd ps d []) g.D.toNat:=Bgk ps d _;have l2:u.length<=2*(g.D-1).toNat:=U d hd;have Q:=sX (ps:=ps) (d:=d) (l:=[]) g.D.toNat;rw[aI hd]at Q;simp only[fS]at Q;refine small p (fun z _ y=>(aS _ _▸y).1) ?_;have O:g.least<=(g.D-1)*(g.Z-g.P-2)-g.E5+1:=by unfold Gm.least;omega
  omega
 ·
  let p:Nat->Bool:=fun z=>closed (z:Int)
  let o:=(List.range g.D.toNat).flatMap ps
  have all:cn (fun z=>p z||(decide ((z:Int)∈o)||(decide ((z:Int)∈ar)||decide ((z:Int)∈op)))) N=N:=y9 N fun z E=>by
   obtain⟨d0,d1⟩:=H z E;simp only[dZ,aV];rcases cover z d0 with y|y|y|y
   ·exact .inl y
   ·exact .inr (.inl (List.mem_flatMap.2 ⟨(Bp g z).toNat,dL.2 (by omega),y⟩))
   ·exact .inr (.inr (.inl y))
   ·exact .inr (.inr (.inr y))
  have o1:=mL (p:=p) (q:=fun z=>decide ((z:Int)∈o)||(decide ((z:Int)∈ar)||decide ((z:Int)∈op))) N;have o2:=mL (p:=fun z:Nat=>decide ((z:Int)∈o)) (q:=fun z=>decide ((z:Int)∈ar)||decide ((z:Int)∈op)) N;have o3:=mL (p:=fun z:Nat=>decide ((z:Int)∈ar)) (q:=fun z=>decide ((z:Int)∈op)) N;have m1:=kN N o;have m2:=kN N ar;have m3:=kN N op;have l1:o.length=Od ps g.D.toNat:=y_ ps _;refine small p (fun z _ y=>y) ?_;have O:g.least<=g.D*(g.Z-g.P-2)-2*g.E5+1:=by unfold Gm.least;omega
  omega
def arB(X:Co)(z:Int):Prop:=∃i,i<3/\(z=X.cur i\/z=X.Br i)
structure A9j(S:Mi)(ep:Int)(x:Me)(bs:List Nat):Prop where
 ex:∃e:En,e.Wf/\e.bytes=bs/\¬e.kind=2/\EOk e ep x.seq/\x.sum=(Fl bs:Nat)/\(S.dr.dv.zs x.Al.toNat).l[x.off.toNat]? = some (Aqt e x.Al x.Bf x.off ep x.seq)/\(S.dr.dv.zs x.Bf.toNat).l[x.off.toNat]? = some (Aqt e x.Bf x.Al x.off ep x.seq)
structure Mr(X:Co)(mt:Int->Int)(x:Me)(bs:List Nat):Prop where
 st:x.state=1
 ok:meB X.S.g x=true
 rc:A9j X.S X.ep x bs
 m1:mt x.Al=x.Bf
 m2:mt x.Bf=x.Al
 wh:(x.Al=X.S.a/\x.Bf=X.S.b)\/(X.closed x.Al=true/\X.closed x.Bf=true)
noncomputable def mM(g:Gm)(es:List Me)(x y w z:Int):List (List EV):=(Gb g es x y w z g.parts.toNat).map fun f=>Bj (L6 f)
def Bdj(S:Mi)(G z:Int):Prop:=∃es w,iH G 1 w es=true/\(∀x∈es,meR S.g x=true)/\es.length=S.g.B.toNat/\(S.dr.dv.zs z.toNat).l=mM S.g es G 1 w z
theorem Bdj.same{G z:Int}(h:Bdj S G z)(g:T.g=S.g)(e:(T.dr.dv.zs z.toNat).l=(S.dr.dv.zs z.toNat).l):Bdj T G z:=by
 obtain⟨es,w,a,b,c,d⟩:=h;exact⟨es,w,a,by rw[g];exact b,by rw[g];exact c,by rw[e,g];exact d⟩
structure Cc(X:Co)(L:List (List Nat))(mt:Int->Int):Prop where
 c:Calm X.S
 un:X.st=false
 ar:∀i,i<3->Bp X.S.g (X.cur i)=i/\Bp X.S.g (X.Br i)=i/\¬X.cur i=X.Br i
 arz:∀z,arB X z->¬z=X.S.a/\¬z=X.S.b/\(∀d,d<X.S.g.D.toNat->z ∉ X.S.ps d)/\¬(X.S.dr.dv.zs z.toNat).st=1
 s2:∀i,i<X.S.dr.dv.n->(X.S.dr.dv.zs i).st<=2/\((X.S.dr.dv.zs i).st=0->(X.S.dr.dv.zs i).l = [])
 opm:¬X.S.a = -1->mt X.S.a=X.S.b/\mt X.S.b=X.S.a
 len:L.length=X.es.length
 lb:X.es.length=X.S.g.B.toNat
 A0t:∀(b:Nat) x bs,X.es[b]? = some x->L[b]? = some bs->(x=Me.nil 0/\bs=List.replicate 32 0)\/Mr X mt x bs
 sq:∀x∈X.es,x.seq<X.nx
 nm:0<=X.gen/\X.ep=1/\1<=X.nx
 hd:X.gen=0\/∀i,i<3->Bdj X.S X.gen (X.cur i)
structure Dq(S T:Mi)(W:Nat->Prop):Prop where
 g:T.g=S.g
 bad:T.bad=S.bad
 ps:T.ps=S.ps
 o:T.a=S.a/\T.b=S.b/\T.u=S.u
 ev:T.dr.ev = []
 up:T.dr.dv.down=false
 hp:T.dr.Qc=S.dr.Qc
 n:T.dr.dv.n=S.dr.dv.n
 size:T.dr.dv.size=S.dr.dv.size
 op:T.dr.dv.op=S.dr.dv.op
 same:∀i,¬W i->(T.dr.dv.zs i).l=(S.dr.dv.zs i).l/\(T.dr.dv.zs i).st=(S.dr.dv.zs i).st
 Auj:∀i,W i->i<S.dr.dv.n->(T.dr.dv.zs i).st=0/\(T.dr.dv.zs i).l = []\/(T.dr.dv.zs i).st=2
theorem Dq.trans {U:Mi}{W V:Nat->Prop}(a:Dq S T W)(b:Dq T U V):Dq S U fun i=>W i\/V i:=by
 refine⟨b.g.trans a.g,b.bad.trans a.bad,b.ps.trans a.ps,⟨b.o.1.trans a.o.1,b.o.2.1.trans a.o.2.1,b.o.2.2.trans a.o.2.2⟩,b.ev,b.up,b.hp.trans a.hp,b.n.trans a.n,b.size.trans a.size,b.op.trans a.op,fun i u=>?_,fun i u C=>?_⟩
 ·have x:=a.same i fun y=>u (.inl y)
  have y:=b.same i fun y=>u (.inr y)
  exact⟨y.1.trans x.1,y.2.trans x.2⟩
 ·rcases fU (V i)with v|v
  ·exact b.Auj i v (by rw[a.n];exact C)
  ·rw[(b.same i v).2,(b.same i v).1]
   exact a.Auj i (u.resolve_right v) C
theorem Dq.Rt(c:Calm S):Dq S S.Rt fun _=>False:=⟨rfl,rfl,rfl,⟨rfl,rfl,rfl⟩,c.ev,c.up,rfl,rfl,rfl,rfl,fun _ _=>⟨rfl,rfl⟩,fun _ y=>y.elim⟩
theorem Dq.mk'{W:Nat->Prop}(q:Dq S T W)(c:Calm S):Mk S T:=⟨q.g,⟨q.n,q.size,q.op,by rw[q.ev,c.ev,q.hp]⟩⟩
def Idle(S:Mi)(W:Nat->Prop):Prop:=∀z:Int,0<=Bp S.g z->W z.toNat->¬z=S.a/\¬z=S.b/\∀d,d<S.g.D.toNat->z ∉ S.ps d
theorem Calm.dq{W:Nat->Prop}(c:Calm S)(q:Dq S T W)(id:Idle S W):Calm T:=by
 have s:=c.sm;have a:=q.g;refine⟨{ toWp:=⟨by rw[a];exact c.wf.sm,by rw[a,q.ps,q.bad];exact c.wf.ps⟩,op:=by rw[a,q.bad,q.o.1,q.o.2.1];exact c.wf.op },by rw[a];exact c.rt,q.ev,q.up,by rw[q.n,a];exact c.n,by rw[q.size,a];exact c.size,by rw[q.op,a];exact c.op,by rw[q.bad];exact c.bad,by rw[a,q.ps];exact c.nd,?_,?_,?_⟩
 ·rw[a,q.ps]
  intro d hd x u;have V:=(c.wf.ps d hd x u).1;have w:¬W x.toNat:=fun y=>(id x (by omega) y).2.2 d hd u
  rw[(q.same _ w).1,(q.same _ w).2];exact c.fr d hd x u
 ·rw[a,q.ps,q.o.1,q.o.2.1,q.o.2.2]
  rcases c.opn with y|⟨C,E,J,O,P,Q,U⟩
  ·exact .inl y
  ·refine .inr ⟨C,E,J,O,P,Q,fun z G=>?_⟩
   have w:¬W z.toNat:=fun y=>by
    rcases G with rfl|rfl
    ·exact(id _ C y).1 rfl
    ·exact(id _ E y).2.1 rfl
   rw[(q.same _ w).1,(q.same _ w).2];exact U z G
 ·rw[q.n,q.o.1,q.o.2.1]
  intro i H hs;rcases fU (W i)with w|w
  ·have:=q.Auj i w H
   omega
  ·rw[(q.same i w).2]at hs
   exact c.few i H hs
theorem Na{W:Nat->Prop}(q:Dq X.S T W)(z:Int):({ X with S:=T }:Co).closed z=X.closed z:=by
 unfold Co.closed Mi.E6;simp only[q.g,q.bad,q.ps,q.o.1,q.o.2.1]
theorem A9j.dq{W:Nat->Prop}(q:Dq S T W){ep:Int}{x:Me}{bs:List Nat}(r:A9j S ep x bs)(a:¬W x.Al.toNat)(h2:¬W x.Bf.toNat):A9j T ep x bs:=by
 obtain⟨e,o,u,C,E,G,H,J⟩:=r.ex;exact⟨e,o,u,C,E,G,by rw[(q.same _ a).1];exact H,by rw[(q.same _ h2).1];exact J⟩
theorem zc{x:Me}(h:meB g x=true):Sr g x.Al x.off=true/\Sr g x.Bf x.off=true/\¬Bp g x.Al=Bp g x.Bf/\(1<=x.seq/\x.seq<=281474976710655)/\0<=x.sum/\x.sum<=4294967295:=by
 unfold meB at h;simp only[aS,aV]at h;exact⟨h.1,h.2.1,h.2.2.1,⟨h.2.2.2.1,h.2.2.2.2.1⟩,h.2.2.2.2.2.1,h.2.2.2.2.2.2⟩
theorem vK{z off:Int}(h:Sr g z off=true):0<=Bp g z/\0<=off/\off<g.S:=by
 unfold Sr at h;simp only[aS,Ez]at h;refine⟨?_,h.2.2.1,by omega⟩;unfold Bp;rw[aG (by omega)];have:=(Ja h.1).z0;exact Int.ediv_nonneg (by omega) (by omega)
theorem Mr.jr{x:Me}{bs:List Nat}(l:Mr X mt x bs):0<=Bp X.S.g x.Al/\0<=Bp X.S.g x.Bf:=by
 obtain⟨a,b,_⟩:=zc l.ok;exact⟨(vK a).1,(vK b).1⟩
theorem E0{z:Int}:X.closed z=true↔0<=Bp X.S.g z/\¬z=X.S.a/\¬z=X.S.b/\X.S.E6 z=false/\Wy X.cur X.Br z=false/\hasB X.S.ps X.S.g.D.toNat z=false:=by
 unfold Co.closed;simp only[aS,aV,Bool.not_eq_true']
theorem vL{z:Int}:Wy cur Br z=true↔∃i,i<3/\((¬cur i = -1/\z=cur i)\/(¬Br i = -1/\z=Br i)):=by
 have e:∀x:Int,Tn x z=true↔¬x = -1/\z=x:=fun x=>by
  unfold Tn;simp only[aS,aV];exact⟨fun y=>⟨y.1,y.2.symm⟩,fun y=>⟨y.1,y.2.symm⟩⟩
 have st:Wy cur Br z=(((false||(Tn (cur 0) z||Tn (Br 0) z))||(Tn (cur 1) z||Tn (Br 1) z))||(Tn (cur 2) z||Tn (Br 2) z)):=rfl;rw[st];simp only[dZ,e,aX,false_or];constructor
 ·rintro((h|h)|h)
  ·exact⟨0,by omega,h⟩
  ·exact⟨1,by omega,h⟩
  ·exact⟨2,by omega,h⟩
 ·rintro⟨i,a,h⟩
  rcases i with _|_|_|i
  ·exact .inl (.inl h)
  ·exact .inl (.inr h)
  ·exact .inr h
  ·omega
theorem Cc.Wy{L:List (List Nat)}(C:Cc X L mt)(z:Int):Go.Ev.Wy X.cur X.Br z=true↔arB X z:=by
 rw[vL];constructor
 ·rintro⟨i,o,h⟩
  exact⟨i,o,h.elim (fun y=>.inl y.2) fun y=>.inr y.2⟩
 ·rintro⟨i,o,h⟩
  obtain⟨a,b,_⟩:=C.ar i o;have u:∀w:Int,Bp X.S.g w=i->¬w = -1:=fun w hw y=>by
   have:=Iq C.c.sm (z:=w);omega
  exact⟨i,o,h.elim (fun y=>.inl ⟨u _ a,y⟩) fun y=>.inr ⟨u _ b,y⟩⟩
theorem Cc.E6{L:List (List Nat)}(C:Cc X L mt)(z:Int):X.S.E6 z=false:=by
 unfold Mi.E6;rw[aJ (C.c.bad _),dI]
theorem Cc.cover{L:List (List Nat)}(C:Cc X L mt){z:Int}(E:0<=Bp X.S.g z):X.closed z=true\/z∈X.S.ps (Bp X.S.g z).toNat\/arB X z\/z=X.S.a\/z=X.S.b:=by
 by_cases o:z=X.S.a
 ·exact .inr (.inr (.inr (.inl o)))
 by_cases h2:z=X.S.b
 ·exact .inr (.inr (.inr (.inr h2)))
 cases u:Go.Ev.Wy X.cur X.Br z with
 | true=>exact .inr (.inr (.inl ((C.Wy z).1 u)))
 | false=>
 cases h4:hasB X.S.ps X.S.g.D.toNat z with
 | true=>
  obtain⟨d,hd,hm⟩:=Jf.1 h4;have:=(C.c.wf.ps d hd z hm).1;refine .inr (.inl ?_);rw[this];exact hm
 | false=>exact .inl (E0.2 ⟨E,o,h2,C.E6 z,u,h4⟩)
theorem Cc.dq{L:List (List Nat)}(C:Cc X L mt){W:Nat->Prop}(q:Dq X.S T W)(id:Idle X.S W)(lv:∀x∈X.es,x.state=1->¬W x.Al.toNat/\¬W x.Bf.toNat)(H:∀i,i<3->¬W (X.cur i).toNat):Cc { X with S:=T } L mt:=by
 have J:=C.c.dq q id;have Q:T.g.B=X.S.g.B:=by rw[q.g]
 refine⟨J,C.un,by show ∀i,i<3->Bp T.g _=_/\Bp T.g _=_/\_;rw[q.g];exact C.ar,fun z E=>?_,fun i u=>?_,by show ¬T.a = -1->mt T.a=T.b/\mt T.b=T.a;rw[q.o.1,q.o.2.1];exact C.opm,C.len,by show X.es.length=T.g.B.toNat;rw[q.g];exact C.lb,fun b x bs G O=>?_,C.sq,C.nm,C.hd.imp (fun y=>y) fun h i u=>(h i u).same q.g (q.same _ (H i u)).1⟩
 ·have:=C.arz z E
  show ¬z=T.a/\¬z=T.b/\(∀d,d<T.g.D.toNat->z ∉ T.ps d)/\¬(T.dr.dv.zs z.toNat).st=1;rw[q.o.1,q.o.2.1,q.g,q.ps];refine⟨this.1,this.2.1,this.2.2.1,fun y=>?_⟩;obtain⟨i,u,h⟩:=E;have hd:0<=Bp X.S.g z:=by
   obtain⟨a,b,_⟩:=C.ar i u;rcases h with h|h
   ·rw[show z=X.cur i from h];omega
   ·rw[show z=X.Br i from h];omega
  obtain⟨_,P,_⟩:=Tj C.c hd;rcases fU (W z.toNat)with w|w
  ·have:=q.Auj _ w P;omega
  ·rw[(q.same _ w).2]at y;exact this.2.2.2 y
 ·have u:i<T.dr.dv.n:=u
  rw[q.n]at u;show(T.dr.dv.zs i).st<=2/\((T.dr.dv.zs i).st=0->(T.dr.dv.zs i).l = []);rcases fU (W i)with w|w
  ·rcases q.Auj _ w u with y|y
   ·exact⟨by omega,fun _=>y.2⟩
   ·exact⟨by omega,fun z=>by omega⟩
  ·rw[(q.same _ w).2,(q.same _ w).1];exact C.s2 i u
 ·rcases C.A0t b x bs G O with y|y
  ·exact .inl y
  ·obtain⟨w1,w2⟩:=lv x (bc G) y.st
   refine .inr ⟨y.st,by show meB T.g x=true;rw[q.g];exact y.ok,y.rc.dq q w1 w2,y.m1,y.m2,?_⟩;rw[Na q,Na q];show(x.Al=T.a/\x.Bf=T.b)\/_;rw[q.o.1,q.o.2.1];exact y.wh
section
def Mi.room(S:Mi):Int:=if S.a = -1 then 0 else S.g.S-S.u
def Mi.free(S:Mi):Int:=S.g.S*Ft S.ps S.g.D.toNat+S.room
theorem Calm.sZ(c:Calm S):0<=S.room/\S.room<=S.g.S/\(¬Roomy S->S.room=0)/\(Roomy S->S.room=S.g.S-S.u):=by
 have:=c.sm.s0;unfold Mi.room Roomy;rcases c.opn with y|⟨_,_,_,o,C,_⟩
 ·rw[aI y.1];exact⟨by omega,by omega,fun _=>rfl,fun z=>absurd y.1 z.1⟩
 ·by_cases h:S.a = -1
  ·rw[aI h];exact⟨by omega,by omega,fun _=>rfl,fun z=>absurd h z.1⟩
  ·rw[aG h];exact⟨by omega,by omega,fun z=>by have:¬S.u<S.g.S:=fun w=>z ⟨h,w⟩;omega,fun _=>rfl⟩
theorem Bd7(c:Calm S)(h:1<=S.free):∃T,S.lQ=some T:=by
 unfold Mi.lQ;by_cases r:Roomy S
 ·rw[aI r];exact⟨S,rfl⟩
 ·rw[aG r]
  have a:=(c.sZ).2.2.1 r;have hp:¬Ft S.ps S.g.D.toNat=0:=fun y=>by
   unfold Mi.free at h;rw[y,a,Int.mul_zero]at h;omega
  unfold jL;rw[aG hp];exact⟨_,rfl⟩
section
variable{L:List (List Nat)}
theorem Cc.opened(C:Cc X L mt)(h:X.S.lQ=some T):∃mt',Cc { X with S:=T } L mt'/\X.S.free<=T.free/\Roomy T/\T.g=X.S.g/\(∀z,0<=Bp X.S.g z->X.closed z=true->({ X with S:=T }:Co).closed z=true)/\(∀x∈X.es,x.state=1->mt' x.Al=mt x.Al/\mt' x.Bf=mt x.Bf):=by
 have V:=TC C.c h;have s:=C.c.sm;unfold Mi.lQ at h;by_cases r:Roomy X.S
 ·rw[aI r]at h
  cases h;exact⟨mt,C,cO _,r,rfl,fun _ _ y=>y,fun _ _ _=>⟨rfl,rfl⟩⟩
 rw[aG r]at h;cases hp:jL X.S.ps X.S.g.D.toNat with
 | none=>rw[hp]at h;cases h
 | some t=>
 obtain⟨x,y,c_⟩:=t;rw[hp]at h;cases h;have tk:=Bdw s C.c.wf.ps hp;obtain⟨i,j,hi,hj,az,ex,ey,ek,_,_,dx,dy⟩:=sY C.c.wf.ps hp;have mx:x∈X.S.ps i:=by rw[ex];exact aW ..
 have my:y∈X.S.ps j:=by rw[ey];exact aW ..
 have ad:¬x=y:=fun e=>by rw[e]at dx;omega
 have sub:∀d z,z∈c_ d->z∈X.S.ps d:=fun d z o=>by
  by_cases G:d=i
  ·subst G;rw[ex];exact aU _ o
  ·by_cases h2:d=j
   ·subst h2;rw[ey];exact aU _ o
   ·rw[<-ek d G h2];exact o
 have hB:∀z,hasB X.S.ps X.S.g.D.toNat z=false->hasB c_ X.S.g.D.toNat z=false/\¬z=x/\¬z=y:=fun z o=>by
  refine⟨?_,fun e=>?_,fun e=>?_⟩
  ·cases O:hasB c_ X.S.g.D.toNat z with
   | false=>rfl
   | true=>
    obtain⟨d,hd,hm⟩:=Jf.1 O;rw[Jf.2 ⟨d,hd,sub d z hm⟩]at o;exact o
  ·rw[Jf.2 ⟨i,hi,by rw[e];exact mx⟩]at o;cases o
  ·rw[Jf.2 ⟨j,hj,by rw[e];exact my⟩]at o;cases o
 let T:Mi:={ X.S.Rt with ps:=c_,a:=x,b:=y,u:=0 }
 have H:∀z,X.closed z=true->({ X with S:=T }:Co).closed z=true/\¬z=x/\¬z=y:=fun z o=>by
  obtain⟨a1,a2,J,P,a5,a6⟩:=E0.1 o;obtain⟨b1,b2,b3⟩:=hB z a6;exact⟨E0.2 ⟨a1,b2,b3,P,a5,b1⟩,b2,b3⟩
 have Q:∀z,(z=X.S.a\/z=X.S.b)->0<=Bp X.S.g z->({ X with S:=T }:Co).closed z=true/\¬z=x/\¬z=y:=fun z o hd=>by
  rcases C.c.opn with w|⟨w1,w2,_,_,_,w6,_⟩
  ·have:=Iq s hd;rcases o with rfl|rfl<;>omega
  have nb:hasB X.S.ps X.S.g.D.toNat z=false:=by
   cases O:hasB X.S.ps X.S.g.D.toNat z with
   | false=>rfl
   | true=>
    obtain⟨d,U,hm⟩:=Jf.1 O;rcases o with rfl|rfl
    ·exact absurd hm (w6 d U).1
    ·exact absurd hm (w6 d U).2
  obtain⟨b1,b2,b3⟩:=hB z nb;refine⟨E0.2 ⟨hd,b2,b3,C.E6 z,?_,b1⟩,b2,b3⟩;cases O:Go.Ev.Wy X.cur X.Br z with
  | false=>rfl
  | true=>
   have:=C.arz z ((C.Wy z).1 O);rcases o with rfl|rfl
   ·exact absurd rfl this.1
   ·exact absurd rfl this.2.1
 let mt':Int->Int:=fun z=>if z=x then y else if z=y then x else mt z
 have me:∀z,¬z=x->¬z=y->mt' z=mt z:=fun z G h2=>by show(if z=x then y else if z=y then x else mt z)=_;rw[aG G,aG h2]
 have lz:∀E bs,Mr X mt E bs->(({ X with S:=T }:Co).closed E.Al=true/\¬E.Al=x/\¬E.Al=y)/\(({ X with S:=T }:Co).closed E.Bf=true/\¬E.Bf=x/\¬E.Bf=y):=fun E bs l=>by
  obtain⟨d1,d2⟩:=l.jr;rcases l.wh with⟨w1,w2⟩|⟨w1,w2⟩
  ·exact⟨Q _ (.inl w1) d1,Q _ (.inr w2) d2⟩
  ·exact⟨H _ w1,H _ w2⟩
 refine⟨mt',⟨V.1,C.un,C.ar,fun z o=>?_,C.s2,fun _=>⟨?_,?_⟩,C.len,C.lb,fun b E bs hx hl=>?_,C.sq,C.nm,C.hd⟩,?_,V.2.1,rfl,fun z _ o=>(H z o).1,fun E ah G=>?_⟩
 ·obtain⟨a1,a2,J,P⟩:=C.arz z o
  exact⟨fun e=>J i hi (by rw[e];exact mx),fun e=>J j hj (by rw[e];exact my),fun d hd hm=>J d hd (sub d z hm),P⟩
 ·show(if x=x then y else _)=y;rw[aI rfl]
 ·show(if y=x then y else if y=y then x else mt y)=x;rw[aG (cY ad),aI rfl]
 ·rcases C.A0t b E bs hx hl with w|w
  ·exact .inl w
  ·obtain⟨⟨c1,n1,n2⟩,c2,n3,n4⟩:=lz E bs w
   obtain⟨e,a1,a2,J,P,a5,a6,a7⟩:=w.rc.ex;exact .inr ⟨w.st,w.ok,⟨e,a1,a2,J,P,a5,a6,a7⟩,by rw[me _ n1 n2];exact w.m1,by rw[me _ n3 n4];exact w.m2,.inr ⟨c1,c2⟩⟩
 ·have hr:=(C.c.sZ).2.2.1 r
  show X.S.g.S*Ft X.S.ps X.S.g.D.toNat+X.S.room<=X.S.g.S*Ft c_ X.S.g.D.toNat+T.room;have:T.room=X.S.g.S:=by
   have:=(V.1.sZ).2.2.2 V.2.1;rw[this];show X.S.g.S-0=_;omega
  rw[this,hr];have:=s.s0;have:=bT tk (show 0<=X.S.g.S by omega);rw[Int.mul_sub,Int.mul_one]at this;omega
 ·obtain⟨b,hb⟩:=cj.1 ah
  have al:b<L.length:=by rw[C.len];exact(aY.1 hb).1
  rcases C.A0t b E _ hb (aD al)with w|w
  ·rw[w.1]at G;cases G
  ·obtain⟨⟨_,n1,n2⟩,_,n3,n4⟩:=lz E _ w
   exact⟨me _ n1 n2,me _ n3 n4⟩
theorem Cc.Ti(C:Cc X L mt)(r:Roomy X.S)(we:e.Wf)(he:EOk e X.ep X.nx):Cc { X with S:=X.S.Ti e X.ep X.nx,nx:=X.nx+1 } L mt/\(X.S.Ti e X.ep X.nx).free=X.S.free-1 /\
 (¬e.kind=2->A9j (X.S.Ti e X.ep X.nx) X.ep ⟨1,X.S.a,X.S.b,X.S.u,X.nx,(Fl e.bytes:Nat)⟩ e.bytes):=by
 have ca:=C.c.Ti r e X.ep X.nx;obtain⟨n1,n2,n3,n4,n5,n6,n7⟩:=C.c.ne r;obtain⟨la,sa⟩:=n7 _ (.inl rfl);obtain⟨lb,sb⟩:=n7 _ (.inr rfl);have U:((X.S.Ti e X.ep X.nx).dr.dv.zs X.S.a.toNat)=(X.S.dr.dv.zs X.S.a.toNat).app X.S.dr.dv.size (Aqt e X.S.a X.S.b X.S.u X.ep X.nx):=by
  show Ik (Ik X.S.dr.dv.zs X.S.a.toNat _) X.S.b.toNat _ X.S.a.toNat=_;unfold Ik;rw[aG n5,aI rfl]
 have V:((X.S.Ti e X.ep X.nx).dr.dv.zs X.S.b.toNat)=(X.S.dr.dv.zs X.S.b.toNat).app X.S.dr.dv.size (Aqt e X.S.b X.S.a X.S.u X.ep X.nx):=by
  show Ik (Ik X.S.dr.dv.zs X.S.a.toNat _) X.S.b.toNat _ X.S.b.toNat=_;unfold Ik;rw[aI rfl]
 have P:∀i,i≠X.S.a.toNat->i≠X.S.b.toNat->((X.S.Ti e X.ep X.nx).dr.dv.zs i)=X.S.dr.dv.zs i:=fun i E h2=>by
  show Ik (Ik X.S.dr.dv.zs X.S.a.toNat _) X.S.b.toNat _ i=_;unfold Ik;rw[aG h2,aG E]
 have Gw:∀(i o:Nat) v,(X.S.dr.dv.zs i).l[o]? = some v->((X.S.Ti e X.ep X.nx).dr.dv.zs i).l[o]? = some v:=fun i o v Q=>by
  have ho:=(aY.1 Q).1;by_cases E:i=X.S.a.toNat
  ·subst E;rw[U];simp only[Zn.app];rw[bm ho];exact Q
  ·by_cases h2:i=X.S.b.toNat
   ·subst h2;rw[V];simp only[Zn.app];rw[bm ho];exact Q
   ·rw[P i E h2];exact Q
 have O:∀i,(((X.S.Ti e X.ep X.nx).dr.dv.zs i).st<=2/\¬((X.S.Ti e X.ep X.nx).dr.dv.zs i).st=0)\/((X.S.Ti e X.ep X.nx).dr.dv.zs i)=X.S.dr.dv.zs i:=fun i=>by
  by_cases E:i=X.S.a.toNat
  ·subst E;left;rw[U];simp only[Zn.app];split<;>omega
  ·by_cases h2:i=X.S.b.toNat
   ·subst h2;left;rw[V];simp only[Zn.app];split<;>omega
   ·exact .inr (P i E h2)
 have aa:∀i,i<3->((X.S.Ti e X.ep X.nx).dr.dv.zs (X.cur i).toNat).l=(X.S.dr.dv.zs (X.cur i).toNat).l:=fun i G=>by
  obtain⟨a,_⟩:=C.ar i G;obtain⟨H,J,_⟩:=C.arz _ ⟨i,G,.inl rfl⟩;rw[P _ (fun y=>H (Lt C.c.sm (by omega) n1 y)) (fun y=>J (Lt C.c.sm (by omega) n2 y))]
 refine⟨⟨ca,C.un,C.ar,fun z hz=>?_,fun i G=>?_,C.opm,C.len,C.lb,fun b x bs hx hl=>?_,fun x hx=>?_,⟨C.nm.1,C.nm.2.1,?_⟩,C.hd.imp id fun h i G=>(h i G).same rfl (aa i G)⟩,?_,fun hk=>?_⟩
 ·obtain⟨H,J,a3,a4⟩:=C.arz z hz
  refine⟨H,J,a3,?_⟩;obtain⟨i,G,h⟩:=hz;have hd:0<=Bp X.S.g z:=by
   obtain⟨a,b,_⟩:=C.ar i G;rcases h with h|h
   ·rw[show z=X.cur i from h];omega
   ·rw[show z=X.Br i from h];omega
  show ¬((X.S.Ti e X.ep X.nx).dr.dv.zs z.toNat).st=1;rw[P _ (fun y=>H (Lt C.c.sm hd n1 y)) (fun y=>J (Lt C.c.sm hd n2 y))];exact a4
 ·rcases O i with y|y
  ·exact⟨y.1,fun z=>absurd z y.2⟩
  ·show((X.S.Ti e X.ep X.nx).dr.dv.zs i).st<=2/\(((X.S.Ti e X.ep X.nx).dr.dv.zs i).st=0->((X.S.Ti e X.ep X.nx).dr.dv.zs i).l = [])
   rw[y];exact C.s2 i G
 ·rcases C.A0t b x bs hx hl with w|w
  ·exact .inl w
  ·obtain⟨e',H,J,a3,a4,a5,a6,a7⟩:=w.rc.ex
   exact .inr ⟨w.st,w.ok,⟨e',H,J,a3,a4,a5,Gw _ _ _ a6,Gw _ _ _ a7⟩,w.m1,w.m2,w.wh⟩
 ·have:=C.sq x hx
  show x.seq<X.nx+1;omega
 ·show 1<=X.nx+1;have:=C.nm.2.2;omega
 ·have E:=(C.c.sZ).2.2.2 r
  unfold Mi.free;have h2:(X.S.Ti e X.ep X.nx).room=X.S.g.S-(X.S.u+1):=by
   show(if X.S.a = -1 then 0 else X.S.g.S-(X.S.u+1))=_;rw[aG r.1]
  rw[E,h2];show X.S.g.S*Ft X.S.ps X.S.g.D.toNat+_=_;omega
 ·refine⟨e,we,rfl,hk,he,rfl,?_,?_⟩
  ·show((X.S.Ti e X.ep X.nx).dr.dv.zs X.S.a.toNat).l[X.S.u.toNat]? = _
   rw[U];simp only[Zn.app];rw[bU (by omega),show X.S.u.toNat-(X.S.dr.dv.zs X.S.a.toNat).l.length=0 by omega];rfl
  ·show((X.S.Ti e X.ep X.nx).dr.dv.zs X.S.b.toNat).l[X.S.u.toNat]? = _
   rw[V];simp only[Zn.app];rw[bU (by omega),show X.S.u.toNat-(X.S.dr.dv.zs X.S.b.toNat).l.length=0 by omega];rfl
theorem Cc.set(C:Cc X L mt)(hj:j<X.es.length){x:Me}{bs:List Nat}(H:(x=Me.nil 0/\bs=List.replicate 32 0)\/Mr X mt x bs)(hs:x.seq<X.nx):Cc { X with es:=X.es.set j x } (L.set j bs) mt:=by
 refine⟨C.c,C.un,C.ar,C.arz,C.s2,C.opm,by show(L.set j bs).length=(X.es.set j x).length;rw[bP,bP];exact C.len,by show(X.es.set j x).length=_;rw[bP];exact C.lb,fun b y G a u=>?_,fun y a=>?_,C.nm,C.hd⟩
 ·have a:(X.es.set j x)[b]? = some y:=a
  have up:∀{E:Me} {o:List Nat},Mr X mt E o->Mr { X with es:=X.es.set j x } mt E o:=fun w=>⟨w.st,w.ok,w.rc,w.m1,w.m2,w.wh⟩
  rw[dR]at a u;by_cases h:j=b
  ·subst h
   rw[aI rfl,aI hj]at a;rw[aI rfl,aI (by rw[C.len];exact hj)]at u;cases a;cases u;exact H.imp id up
  ·rw[aG h]at a u
   exact(C.A0t b y G a u).imp id up
 ·rcases dG a with E|rfl
  ·exact C.sq y E
  ·exact hs
end
end
section
structure Fd(S0 D:Jo)(z:Int)(Y:List (List EV)):Prop where
 ev:D.ev = []
 up:D.dv.down=false
 hp:D.Qc=S0.Qc
 n:D.dv.n=S0.dv.n
 size:D.dv.size=S0.dv.size
 op:D.dv.op=S0.dv.op
 same:∀i:Nat,¬i=z.toNat->D.dv.zs i=S0.dv.zs i
 here:(D.dv.zs z.toNat).l=Y/\(D.dv.zs z.toNat).st=if Y.length=S0.dv.size then 2 else if Y.length=0 then 0 else 1
structure Tz(S:Mi)(z:Int):Prop where
 c:Calm S
 d:0<=Bp S.g z
 st:(S.dr.dv.zs z.toNat).st=0/\(S.dr.dv.zs z.toNat).l = []\/(S.dr.dv.zs z.toNat).st=2
theorem TD {zs:Nat->Zn}{l:List Int}:∀n,(∀i,i<n->(zs i).st=1->(i:Int)∈l)->Rv zs n<=cn (fun i=>decide ((i:Int)∈l)) n
 | 0,_=>aE _
 | n+1,h=>by
  rw[zd];have o:=TD n fun i u=>h i (by omega)
  unfold cn;by_cases a:(zs n).st=1
  ·rw[aI a,aI (aM (h n (aO _) a))];omega
  ·rw[aG a];omega
section
variable{z:Int}(t:Tz S z)
include t
theorem Tz.pos:0<S.dr.dv.size:=by have:=t.c.sm.s0;have:=t.c.size;omega
theorem Tz.has{Y:List (List EV)}(f:Fd S.dr D z Y):D.dv.has z=true:=by
 obtain⟨a,b,_⟩:=Tj t.c t.d;unfold Dv.has;rw[f.n];exact aM ⟨a,by omega⟩
theorem Bna(h:(S.dr.dv.zs z.toNat).st=0):Fd S.dr S.dr z []:=by
 have:=t.pos;refine⟨t.c.ev,t.c.up,rfl,rfl,rfl,rfl,fun _ _=>rfl,?_⟩;rcases t.st with y|y
 ·rw[y.2,y.1,aG (by show ¬0=_;omega),aI (show([]:List (List EV)).length=0 from rfl)];exact⟨rfl,rfl⟩
 ·omega
theorem TE:(S.dr.reset z).2=0/\Fd S.dr (S.dr.reset z).1 z []:=by
 obtain⟨a,b,u,_⟩:=Tj t.c t.d;have hs:=t.pos;have be:=s_ t.c.up u;have o:Kn (S.dr.dv.zs z.toNat).st=0:=by
  rcases t.st with⟨y,_⟩|y<;>rw[y]<;>rfl
 unfold Jo.reset;rw[Vz t.c.ev];unfold Dv.reset;rw[aG (by rw[be];exact fun y=>y rfl),aI o,o];refine⟨rfl,t.c.ev,t.c.up,rfl,rfl,rfl,rfl,fun i C=>?_,?_⟩
 ·show Ik S.dr.dv.zs z.toNat Zn.empty i=_
  unfold Ik;rw[aG C]
 ·have e:((S.dr.dv.tick.set z.toNat Zn.empty).zs z.toNat)=Zn.empty:=by
   show Ik S.dr.dv.zs z.toNat Zn.empty z.toNat=_;unfold Ik;rw[aI rfl]
  show((S.dr.dv.tick.set z.toNat Zn.empty).zs z.toNat).l = []/\((S.dr.dv.tick.set z.toNat Zn.empty).zs z.toNat).st=_;rw[e,aG (by show ¬0=_;omega),aI (show([]:List (List EV)).length=0 from rfl)];exact⟨rfl,rfl⟩
theorem Bgn{Y:List (List EV)}(f:Fd S.dr D z Y)(J:Y.length<S.dr.dv.size)(x:List EV):(D.append z x).2=((Y.length:Int),0)/\Fd S.dr (D.append z x).1 z (Y++[x]):=by
 have E:=t.has f;obtain⟨u,C⟩:=f.here;have h2:(D.dv.zs z.toNat).st<2:=by rw[C,aG (by omega)];split<;>omega
 have G:¬D.dv.op<=Rv D.dv.zs D.dv.n:=by
  have h0:=Iq t.c.sm t.d;have O:=TD (zs:=D.dv.zs) (l:=[S.a,S.b,z]) D.dv.n fun i H y=>by
   simp only[bX,List.not_mem_nil,or_false];by_cases e:i=z.toNat
   ·exact .inr (.inr (by omega))
   ·rw[f.same i e]at y
    rcases t.c.few i (by rw[<-f.n];exact H) y with w|w
    ·exact .inl w
    ·exact .inr (.inl w)
  have h2:=kN D.dv.n [S.a,S.b,z];have P:([S.a,S.b,z]:List Int).length=3:=rfl;have:=t.c.sm.o0;have h4:=f.op;have Q:=t.c.op;omega
 unfold Jo.append;rw[Vz f.ev,TF f.up E h2 G];have e2:((D.dv.tick.set z.toNat ((D.dv.zs z.toNat).app D.dv.size x)).zs z.toNat)=(D.dv.zs z.toNat).app D.dv.size x:=by
  show Ik D.dv.zs z.toNat _ z.toNat=_;unfold Ik;rw[aI rfl]
 refine⟨by rw[u],f.ev,f.up,f.hp,f.n,f.size,f.op,fun i o=>?_,?_⟩
 ·show Ik D.dv.zs z.toNat _ i=_
  unfold Ik;rw[aG o];exact f.same i o
 ·show((D.dv.tick.set z.toNat ((D.dv.zs z.toNat).app D.dv.size x)).zs z.toNat).l=Y++[x]/\((D.dv.tick.set z.toNat ((D.dv.zs z.toNat).app D.dv.size x)).zs z.toNat).st=_
  rw[e2];unfold Zn.app;refine⟨by rw[<-u],?_⟩;show(if(D.dv.zs z.toNat).l.length+1=D.dv.size then 2 else 1)=_;rw[u,f.size,aF,show([x]:List (List EV)).length=1 from rfl];split
  ·rfl
  ·rw[aG (by omega)]
theorem TG{Y:List (List EV)}(f:Fd S.dr D z Y)(h:(D.dv.zs z.toNat).st=2\/Y = []):Dq S { S with dr:=D } fun i=>i=z.toNat:=by
 refine⟨rfl,rfl,rfl,⟨rfl,rfl,rfl⟩,f.ev,f.up,f.hp,f.n,f.size,f.op,fun i o=>?_,fun i o _=>?_⟩
 ·show(D.dv.zs i).l=_/\(D.dv.zs i).st=_
  rw[f.same i o];exact⟨rfl,rfl⟩
 ·subst o
  rcases h with h|h
  ·exact .inr h
  ·subst h
   have hs:=t.pos;obtain⟨a,b⟩:=f.here;rw[aG (by show ¬0=_;omega),aI (show([]:List (List EV)).length=0 from rfl)]at b;exact .inl ⟨b,a⟩
theorem Bjw{Y:List (List EV)}(f:Fd S.dr D z Y):(D.finish z).2=0/\(Dq S { S with dr:=(D.finish z).1 } fun i=>i=z.toNat)/\((D.finish z).1.dv.zs z.toNat).l=Y:=by
 have C:=t.has f;have be:=s_ f.up C;obtain⟨E,o⟩:=f.here;have u:Kn (D.dv.zs z.toNat).st=0:=by
  rw[o];split
  ·rfl
  ·split<;>rfl
 unfold Jo.finish;rw[Vz f.ev];unfold Dv.finish;rw[aG (by rw[be];exact fun y=>y rfl),aI u,u];have e2:((D.dv.tick.set z.toNat (D.dv.zs z.toNat).finish).zs z.toNat)=(D.dv.zs z.toNat).finish:=by
  show Ik D.dv.zs z.toNat _ z.toNat=_;unfold Ik;rw[aI rfl]
 refine⟨rfl,⟨rfl,rfl,rfl,⟨rfl,rfl,rfl⟩,f.ev,f.up,f.hp,f.n,f.size,f.op,fun i a=>?_,fun i a _=>?_⟩,?_⟩
 ·have e1:((D.dv.tick.set z.toNat (D.dv.zs z.toNat).finish).zs i)=D.dv.zs i:=by
   show Ik D.dv.zs z.toNat _ i=_;unfold Ik;rw[aG a]
  show((D.dv.tick.set z.toNat (D.dv.zs z.toNat).finish).zs i).l=_/\((D.dv.tick.set z.toNat (D.dv.zs z.toNat).finish).zs i).st=_;rw[e1,f.same i a];exact⟨rfl,rfl⟩
 ·subst a
  right;show((D.dv.tick.set z.toNat (D.dv.zs z.toNat).finish).zs z.toNat).st=2;rw[e2];rfl
 ·show((D.dv.tick.set z.toNat (D.dv.zs z.toNat).finish).zs z.toNat).l=Y
  rw[e2];exact E
end
section
variable (A:Bv disp)(hK:10000<K){ar m:Nat}(M:Db h m S F)(hb:HB h)(hA:h.get ar=some (.cells (arC m cur Br) 152))(fA:F ar){z:Int}(t:Tz S z)
include A hK t
theorem Boz(M:Db h m S F)(hb:HB h)(hA:h.get ar=some (.cells (arC m cur Br) 152))(hd:15<=d):Ok (Ag TT disp K d false 186 [.ptr ar 0,I z] h) fun v h'=>v=I 0/\(∃o,Db h' m { S with dr:=o } F/\Fd S.dr o z [])/\Kf F h h'/\HB h':=by
 obtain⟨e,rfl⟩:∃k,d=k+1:=⟨d-1,by omega⟩;rw[Apn A (by omega)];simp only[KY,Aa];rw[Ai hA rfl (v:=.ptr m 0) rfl];obtain⟨D,V,dr⟩:=mX A hK M hb;rw[dr.D4,dr.device,dr.state,aI (Tj t.c t.d).2.2.1];simp only[I,Ac];by_cases u:(S.dr.dv.zs z.toNat).st=0
 ·rw[u]
  simp only[show decide (((0:Nat):Int)=0)=true from rfl,Aa];exact .ret ⟨rfl,⟨S.dr,M,Bna t u⟩,Av.refl _,hb⟩
 ·rw[aJ (by omega)]
  simp only[Aa,KX];rw[Ai hA rfl (v:=.ptr m 0) rfl,dr.D4];obtain⟨C,E⟩:=TE t;refine(dr.reset (d:=e) (by omega) z (by rw[Vz t.c.ev];exact t.pos)).Am ?_;rintro _ h' ⟨rfl,M2,G,a⟩;rw[C];exact .ret ⟨rfl,⟨_,M2,E⟩,G,a⟩
theorem A8z(hd:14<=d){X:List (List EV)}(U:tN X)(af:X.length<=S.dr.dv.size)(ag:0<X.length)(ah:S.dr.dv.size<=64):∀(f i:Nat) (h:Ab) (D:Jo),X.length-i<f->i<=X.length->Db h m { S with dr:=D } F->HB h->h.get ar=some (.cells (arC m cur Br) 152)->F ar->F q->Cd h v q 30 64 X.length X.flatten->Fd S.dr D z (X.take i) ->
 Ok (Mb (Ag TT disp K d false) (Ag TT disp K d true) K f (.ptr ar 0) (I z) v (I X.length) (I i) h) fun w h'=>w=I 0/\(∃C,Db h' m { S with dr:=C } F/\(Dq S { S with dr:=C } fun i=>i=z.toNat)/\(C.dv.zs z.toNat).l=X)/\Kf F h h'/\HB h':=by
 intro f;induction f with
 | zero=>intro i h D hf;omega
 | succ f ih=>
  intro i h D hf hi M hb hA fA fq row c;rw[Mb];simp only[I,Ac];by_cases o:i<X.length
  ·have:decide ((i:Int)<(X.length:Int))=true:=by simp;omega
   simp only[this,Aa,KT];obtain⟨H,xu⟩:=U _ (bH o);have e1:Og X.flatten (i*64) 64=some X[i]:=tG (n:=64) _ _ _ (fun x hx=>(U x hx).1) (aD o);have ix:=row.ix o .i64;rw[ix,Cn (row.block (by omega)) rfl e1];have lt:(X.take i).length=i:=by rw[bZ];omega
   have eT:X.take (i+1)=X.take i++[X[i]]:=cD o;generalize X[i]=x at H xu eT⊢
   try simp only[Aa]
   refine Ok.mk (by simp) H fun h2 J g2 _=>?_
   have a:=J.hb hb;have E:=J.at hb hA;have M2:=(M.ext hb J).less fun j (hj:F j)=>Or.inl hj
   have l2:=a _ _ E;have l3:=a _ _ g2;obtain⟨D1,V,dr⟩:=mX A hK M2 a;rw[Hb l2,Ai E rfl (v:=.ptr m 0) rfl]
   try simp only[Aa,As]
   rw[mN dr.Br5]
   try simp only[Aa,As]
   rw[Hb l3,Cn g2 rfl (Aj H)]
   try simp only[Aa,As]
   obtain⟨O,G⟩:=Bgn t c (by omega) x;rw[lt]at O;rw[<-eT]at G;refine dr.append hd z H xu (by kernel_rfl) (by kernel_rfl) (fun _=>by kernel_rfl) ?_;intro h4 s4 M4 k4 P;rw[show(({ S with dr:=D }:Mi).dr.append z x)=D.append z x from rfl]at *;rw[O];simp only[Aa,I,Ac,aC,aB,aA,KS,KR,KQ];rw[Cl,show((i:Nat):Int)+1=((i+1:Nat):Int) by omega];have u:Kf F h h4:=(Ext.kf J).trans k4;refine(ih (i+1) h4 _ (by omega) (by omega) M4 P (u.at hb hA fA) fA fq (row.frame fun y=>u.get _ (hb _ _ (row.block y)) fun y=>y fq) G).mono ?_;rintro _ h5 ⟨rfl,⟨C,M5,c5⟩,k5,Q⟩;exact⟨rfl,⟨C,M5,c5⟩,u.trans k5,Q⟩
  ·have:i=X.length:=by omega
   subst this;have:decide ((X.length:Int)<(X.length:Int))=false:=by simp
   simp only[this,Aa,KP];rw[Ai hA rfl (v:=.ptr m 0) rfl];obtain⟨D1,V,dr⟩:=mX A hK M hb;rw[dr.D4,dr.device];have st:=dr.state z;simp only[I]at st;rw[st,aI (t.has c)];simp only[I,Ac];by_cases hz:(D.dv.zs z.toNat).st=2
   ·rw[hz]
    simp only[show decide (((2:Nat):Int)=2)=true from rfl,Aa];exact .ret ⟨rfl,⟨D,M,TG t c (.inl hz),by rw[c.here.1,bW]⟩,Av.refl _,hb⟩
   ·rw[aJ (by omega)]
    simp only[Aa,KO];rw[Ai hA rfl (v:=.ptr m 0) rfl,dr.D4];obtain⟨O,G⟩:=Bjw t c;refine(dr.finish (d:=d) hd z).Am ?_;rintro _ h' ⟨rfl,M2,k2,a⟩;rw[show(({ S with dr:=D }:Mi).dr.finish z)=D.finish z from rfl]at *;rw[O];exact .ret ⟨rfl,⟨_,M2,G.1,by rw[G.2,bW]⟩,k2,a⟩
include M hb hA fA
theorem Bs3 {ml ll:Nat}{es:List Me}(mp:Ob h b ml ll S.g es){x y w:Int}(hR:iH x y w es=true)(hd:17<=d):Ok (Ag TT disp K d false 159 [.ptr ar 0,.agg [I x,I y,I w,.ptr b 0],I z] h) fun v h'=>v=I 0/\(∃Q,Db h' m { S with dr:=Q } F/\(Dq S { S with dr:=Q } fun i=>i=z.toNat)/\(Q.dv.zs z.toNat).l=mM S.g es x y w z)/\Kf F h h'/\HB h':=by
 have hr:=t.c.rt;have s:=Ja hr;have n0:=Iq s t.d;have n1:z<S.g.D*S.g.Z:=by rcases Ip s z with y|⟨_,_,_,_,y⟩;have:=t.d;omega;exact y
 have hp:S.g.parts<=S.g.S:=by
  have:=hr;unfold rtB at this;simp only[aS,aV]at this;exact this.2.1
 have aw:=t.c.size;have:=s.s0;have:=s.s1;have:=s.b0;have ax:1<=S.g.parts:=by unfold Gm.parts;omega
 obtain⟨e,rfl⟩:∃k,d=k+1:=⟨d-1,by omega⟩;rw[Arx A (by omega)];simp only[KW,Aa];obtain⟨h1,e_,U,g1,a1⟩:=nW h (.cells [I x,I y,I w,.ptr b 0] 160);rw[e_];have u:=U.hb hb;have J:=U.at hb hA;have M1:=(M.ext hb U).less fun j (hj:F j)=>Or.inl hj
 have l1:=u _ _ J;obtain⟨D,V,dr⟩:=mX A hK M1 u;rw[Hb l1,Ai J rfl (v:=.ptr m 0) rfl]
 try simp only[Aa,As]
 refine Ok.bE dr.table (fun _ _ p=>p.2) ?_;rintro _ a3 h2 ⟨rfl,_⟩ _ x2;have G:=x2.hb u;have g2:=x2.at u g1;have l2:=G _ _ g2;have ad:h.next<h1.next:=by omega
 try simp only[Aa,As]
 rw[Hb ad,Cy g2 rfl,Aj (n:=4) rfl]
 try simp only[Aa,As]
 have a:Ext h h2:=U.trans x2;have ae:Ob h2.lift b ml ll S.g es:=(mp.frame (a.get _ (hb _ _ mp.map) id) (a.get _ (hb _ _ mp.row) id) (a.get _ (hb _ _ mp.live) id)).frame (Bx _ _) (Bx _ _) (Bx _ _);refine Ok.bE (YX (K:=K) A (d:=e) (by omega) hK hr ae (C8 G) hR n0 n1) (fun _ _ p=>by obtain⟨_,_,_,_,_,_,_,_,p,_⟩:=p;exact p) ?_;rintro _ a4 h3 ⟨v,q,X,rfl,row,lq,O,hX,_,_⟩ sm x3;have hL:X.length=S.g.parts.toNat:=by rw[O,bh,rh]
 have C:=x3.hb G;have o:Cd h3 v q 30 64 X.length X.flatten:=row.frame fun _=>sm.get _
 have hq:h2.next<=q:=lq (by omega)
 simp only[Aa,I,Ac,aB,aA,KV];have H:Ext h h3:=a.trans x3;have P:=H.at hb hA;have M3:Db h3 m S (fun i=>F i\/i=q):=(M.ext hb H).less fun j hj=>by
  rcases hj with hj|hj
  ·exact .inl hj
  ·subst hj
   have:=C _ _ (o.block (by omega));have:=a.next
   exact .inr ⟨by omega,by omega⟩
 refine(Boz (K:=K) A hK t M3 C P (d:=e) (by omega)).Am ?_;rintro _ h4 ⟨rfl,⟨Q,M4,c4⟩,k4,ah⟩;simp only[Aa,I,Ac,aB,aA,KU];have E:=o.frame (h':=h4) fun y=>k4.get _ (C _ _ (o.block y)) fun w=>w (.inr rfl)
 rw[E.Hg];refine(A8z (K:=K) A hK t (d:=e) (by omega) hX (by omega) (by omega) (by omega) K 0 h4 _ (by omega) (by omega) M4 ah (k4.at C P (.inl fA)) (.inl fA) (.inr rfl) E c4).mono ?_;rintro _ h5 ⟨rfl,⟨D2,M5,c5⟩,k5,ai⟩;exact⟨rfl,⟨D2,M5.less fun j hj=>.inl hj,c5.1,c5.2.trans O⟩,((Ext.kf H).trans (k4.less fun j hj=>.inl hj)).trans (k5.less fun j hj=>.inl hj),ai⟩
end
end
section
def d_(cur Br:Nat->Int)(k:Nat):Nat->Int:=fun j=>if j<k then Br j else cur j
theorem TH(cur Br:Nat->Int)(k:Nat):Lu (d_ cur Br k) k (Br k)=d_ cur Br (k+1):=by
 funext j;unfold Lu d_;by_cases h:j=k
 ·subst h;rw[aI rfl,aI (aO _)]
 ·rw[aG h]
  by_cases h2:j<k
  ·rw[aI h2,aI (by omega)]
  ·rw[aG h2,aG (by omega)]
theorem Bp7(cur Br:Nat->Int)(k:Nat):Lu (Lu (d_ Br cur k) k (-1)) k (cur k)=d_ Br cur (k+1):=by
 have:Lu (Lu (d_ Br cur k) k (-1)) k (cur k)=Lu (d_ Br cur k) k (cur k):=by
  funext j;unfold Lu;split<;>rfl
 rw[this];exact TH Br cur k
def j6(Br:Nat->Int)(k:Nat):Nat->Prop:=fun z=>∃i,i<k/\z=(Br i).toNat
theorem Dq.flush{W:Nat->Prop}(q:Dq S T W):T.dr.flush.2=0/\Dq S { T with dr:=T.dr.flush.1 } W:=by
 have a:=tc q.ev q.up;rw[a];exact⟨rfl,q.g,q.bad,q.ps,q.o,q.ev,q.up,q.hp,q.n,q.size,q.op,q.same,q.Auj⟩
section
variable (A:Bv disp)(hK:10000<K){ar m ml ll:Nat}{es:List Me}(fA:F ar)(fb:F b/\F ml/\F ll/\b≠ar/\ml≠ar/\ll≠ar){x y w:Int}
include A hK fA fb
theorem Bok(hd:18<=d)(hR:iH x y w es=true)(u:i<3)(M:Db h m S F)(hb:HB h)(hA:h.get ar=some (.cells (arC m cur Br) 152))(mp:Ob h b ml ll S.g es)(t:Tz S (Br i))(nb:S.E6 (Br i)=false):
 Ok (Ag TT disp K d false 132 [.ptr ar 0,I i,.agg [I x,I y,I w,.ptr b 0]] h) fun v h'=>v=.tuple [.bool true,I 0]/\(∃C,Db h' m { S with dr:=C } F/\(Dq S { S with dr:=C } fun k=>k=(Br i).toNat)/\(C.dv.zs (Br i).toNat).l=mM S.g es x y w (Br i))/\h'.get ar=some (.cells (arC m (Lu cur i (Br i)) (Lu (Lu Br i (-1)) i (cur i))) 152)/\Av (fun j=>¬F j\/j=ar) h h'/\HB h':=by
 obtain⟨e,rfl⟩:∃k,d=k+1:=⟨d-1,by omega⟩;rw[Ap9 A (by omega)];simp only[LC,Aa];obtain⟨h1,e_,O,g1,ag⟩:=nW h (.cells [I x,I y,I w,.ptr b 0] 160);rw[e_];have E:=O.hb hb;have Q:=O.at hb hA;have M1:Db h1 m S (fun j=>F j\/j=h.next):=(M.ext hb O).less fun j hj=>by
  rcases hj with hj|hj
  ·exact .inl hj
  ·exact .inr ⟨by omega,by omega⟩
 obtain⟨U,rfl⟩:∃k,K=k+1:=⟨K-1,by omega⟩;rw[O1];have ai:=Iq t.c.sm t.d;have ht:ru S (Br i) i=(Br i,S):=by
  unfold ru;rw[aI ⟨by omega,nb⟩]
 refine(ZI (K:=U+1) hK M1 E Q (.inl fA) u (Yf t.c.sm t.d)).Am ?_;rintro _ h2 ⟨rfl,M2,G,c2,H⟩;rw[ht]at M2⊢;have la:=hb _ _ hA;have a:Av (fun j=>¬F j\/j=ar) h h2:=(Ext.to O).trans (c2.mono fun j hj=>hj.elim (fun y=>.inl fun w=>y (.inl w)) .inr);have g2:h2.get h.next=some (.cells [I x,I y,I w,.ptr b 0] 160):=c2.at E g1 fun w=>w.elim (fun w=>w (.inr rfl)) fun w=>by omega
 simp only[I,Ac];rw[aJ (show ¬Br i = -1 by omega)];simp only[Aa,LB];rw[Cy g2 rfl,Aj (n:=4) rfl];simp only[Aa];have mT:Ob h2 b ml ll S.g es:=mp.frame (a.get _ (hb _ _ mp.map) fun w=>w.elim (fun w=>w fb.1) fb.2.2.2.1) (a.get _ (hb _ _ mp.row) fun w=>w.elim (fun w=>w fb.2.1) fb.2.2.2.2.1) (a.get _ (hb _ _ mp.live) fun w=>w.elim (fun w=>w fb.2.2.1) fb.2.2.2.2.2);have fl:=Bs3 (K:=U+1) A hK (z:=Br i) M2 H G (.inl fA) t mT hR (d:=e) (by omega);simp only[I]at fl;refine fl.Am ?_;rintro _ h3 ⟨rfl,⟨C,M3,c3⟩,V,J⟩;have o:=V.at H G (.inl fA);have P:=J _ _ o;simp only[Ac,aC,Aa];rw[Xi u]
 try simp only[Aa]
 rw[dS,Hb P,Ai o rfl (CM u)]
 try simp only[Aa,As]
 rw[Ax (l:=[.int .i64 (Br i),I (cur i)]) rfl]
 try simp only[Aa,As]
 rw[Xi u]
 try simp only[Aa,As]
 rw[G1];refine Ok.st (arC m (Lu cur i (Br i)) (Lu (Lu Br i (-1)) i (cur i))) o rfl rfl (wP u (Br i) (cur i)) ?_;exact .ret ⟨rfl,⟨C,(M3.iI (T:=fun j=>j=ar) ((Av.refl (S:=fun j=>j=ar) _).Ar (.inl rfl) P _) fun j hj _=>.inl (hj▸fA)).less fun j hj=>.inl hj,c3⟩,Ae _ _ _,(a.trans (V.mono fun j hj=>.inl fun w=>hj (.inl w))).Ar (.inl (.inr rfl)) P _,J.put P _⟩
theorem A7t(hd:19<=d)(hR:iH x y w es=true){t:Nat}(ft:F t)(ta:t≠ar)(P:∀i,i<3->Tz S (Br i)/\S.E6 (Br i)=false/\Bp S.g (Br i)=i)(Q:Idle S (j6 Br 3)):∀(f i:Nat) (h:Ab) (T:Mi),3-i<f->i<=3->Db h m T F->Dq S T (j6 Br i)->(∀j,j<i->(T.dr.dv.zs (Br j).toNat).l=mM S.g es x y w (Br j))->HB h->h.get ar=some (.cells (arC m (d_ cur Br i) (d_ Br cur i)) 152)->h.get t=some (.cells [I x,I y,I w,.ptr b 0] 160)->Ob h b ml ll S.g es ->
 Ok (Kx (Ag TT disp K d false) (Ag TT disp K d true) K f (.ptr ar 0) (.ptr t 0) (I i) (I i) h) fun v h'=>v=.tuple [I 3,I 0]/\(∃T,Db h' m T F/\Dq S T (j6 Br 3)/\∀j,j<3->(T.dr.dv.zs (Br j).toNat).l=mM S.g es x y w (Br j))/\h'.get ar=some (.cells (arC m (d_ cur Br 3) (d_ Br cur 3)) 152)/\Av (fun j=>¬F j\/j=ar) h h'/\HB h':=by
 intro f;induction f with
 | zero=>intro i h T hf;omega
 | succ f ih=>
  intro i h T hf hi M q hc hb hA gt mp;rw[Kx];simp only[I,Ac];by_cases u:i<3
  ·have:decide ((i:Int)<3)=true:=by simp;omega
   simp only[this,Aa,HJ];rw[Cy gt rfl,Aj (n:=4) rfl];simp only[Aa];obtain⟨C,nb,di⟩:=P i u;have J:d_ Br cur i i=Br i:=aG (bN _);have ec:d_ cur Br i i=cur i:=aG (bN _);have E:¬j6 Br i (Br i).toNat:=fun⟨j,hj,e⟩=>by
    have U:=(P j (by omega)).2.2;have:=Lt C.c.sm (x:=Br i) (y:=Br j) (by omega) (by omega) e;rw[this,U]at di;omega
   have tT:Tz T (Br i):=⟨C.c.dq q fun z hz hw=>Q z hz (by obtain⟨j,hj,e⟩:=hw;exact⟨j,by omega,e⟩),by rw[q.g];exact C.d,by rw[(q.same _ E).1,(q.same _ E).2];exact C.st⟩;have nT:T.E6 (Br i)=false:=by unfold Mi.E6 at nb⊢;rw[q.g,q.bad];exact nb
   have G:=Bok (K:=K) A hK fA fb (d:=d) (by omega) hR u (Br:=d_ Br cur i) M hb hA (by rw[q.g];exact mp) (by rw[J];exact tT) (by rw[J];exact nT);simp only[I]at G;refine G.Am ?_;rintro _ h2 ⟨rfl,⟨O,M2,q2,y2⟩,H,c2,a⟩;rw[J,ec,TH,Bp7]at H;rw[J]at q2 y2;rw[q.g]at y2;simp only[Aa,Ac,aB,aA,HI,HH];rw[Cl];rw[show((i:Nat):Int)+1=((i+1:Nat):Int) by omega];have ad:Ob h2 b ml ll S.g es:=mp.frame (c2.get _ (hb _ _ mp.map) fun w=>w.elim (fun w=>w fb.1) fb.2.2.2.1) (c2.get _ (hb _ _ mp.row) fun w=>w.elim (fun w=>w fb.2.1) fb.2.2.2.2.1) (c2.get _ (hb _ _ mp.live) fun w=>w.elim (fun w=>w fb.2.2.1) fb.2.2.2.2.2);have q3:Dq S { T with dr:=O } (j6 Br (i+1)):=by
    have:=q.trans q2;refine⟨this.g,this.bad,this.ps,this.o,this.ev,this.up,this.hp,this.n,this.size,this.op,fun k hk=>this.same k fun y=>hk ?_,fun k hk hn=>this.Auj k ?_ hn⟩
    ·rcases y with⟨j,hj,e⟩|e
     ·exact⟨j,by omega,e⟩
     ·exact⟨i,by omega,e⟩
    ·obtain⟨j,hj,e⟩:=hk
     rcases cF.1 hj with y|y
     ·exact .inl ⟨j,y,e⟩
     ·subst y;exact .inr e
   have af:∀j,j<i+1->(O.dv.zs (Br j).toNat).l=mM S.g es x y w (Br j):=fun j hj=>by
    rcases cF.1 hj with y|rfl
    ·rw[show O.dv.zs (Br j).toNat=({ T with dr:=O }:Mi).dr.dv.zs (Br j).toNat from rfl,(q2.same _ fun e=>?_).1]
     ·exact hc j y
     ·have U:=(P j (by omega)).2.2
      have:=Lt C.c.sm (x:=Br j) (y:=Br i) (by omega) (by omega) e;rw[this]at U;omega
    ·exact y2
   refine(ih (i+1) h2 _ (by omega) (by omega) M2 q3 af a H (c2.at hb gt fun w=>w.elim (fun w=>w ft) ta) ad).mono ?_;rintro _ h3 ⟨rfl,r1,r2,r3,r4⟩;exact⟨rfl,r1,r2,c2.trans r3,r4⟩
  ·have:i=3:=by omega
   subst this;have:decide (((3:Nat):Int)<3)=false:=rfl;simp only[this,Aa,HG];rw[Ai hA rfl (v:=.ptr m 0) rfl];obtain⟨D,V,dr⟩:=mX A hK M hb;rw[dr.D4];obtain⟨f1,f2⟩:=q.flush;refine(dr.flush (d:=d) (by omega)).Am ?_;rintro _ h2 ⟨rfl,M2,k2,a⟩;rw[f1];simp only[I,Ac,aB,aA,Aa,HF];have e:decide (((3:Nat):Int)<2)=false:=rfl;simp only[e,Aa,HE];exact .ret ⟨rfl,⟨_,M2,f2,fun j hj=>by
    rw[tc q.ev q.up];exact hc j hj⟩,k2.at hb hA fA,k2.mono fun j hj=>.inl hj,a⟩
theorem Boo(hd:20<=d)(hR:iH x y w es=true)(c:Calm S)(hT:∀i,i<3->Tz S (Br i)/\S.E6 (Br i)=false/\Bp S.g (Br i)=i)(U:Idle S (j6 Br 3))(M:Db h m S F)(hb:HB h)(hA:h.get ar=some (.cells (arC m cur Br) 152))(mp:Ob h b ml ll S.g es):
 Ok (Ag TT disp K d false 99 [.ptr ar 0,.agg [I x,I y,I w,.ptr b 0]] h) fun v h'=>v=.tuple [I 3,I 0]/\(∃T,Db h' m T F/\Dq S T (j6 Br 3)/\∀j,j<3->(T.dr.dv.zs (Br j).toNat).l=mM S.g es x y w (Br j))/\h'.get ar=some (.cells (arC m (d_ cur Br 3) (d_ Br cur 3)) 152)/\Av (fun j=>¬F j\/j=ar) h h'/\HB h':=by
 obtain⟨e,rfl⟩:∃k,d=k+1:=⟨d-1,by omega⟩;have s:=c.sm;rw[Apt A (by omega)];simp only[HL,Aa];obtain⟨h1,e_,H,Q,aq⟩:=nW h (.cells [I x,I y,I w,.ptr b 0] 160);rw[e_];have o:=H.hb hb;have l1:=o _ _ Q;have la:=o _ _ (H.at hb hA);rw[Hb l1,Cy Q rfl,Aj (n:=4) rfl]
 try simp only[Aa,As]
 have C:=mp.frame (H.get _ (hb _ _ mp.map) id) (H.get _ (hb _ _ mp.row) id) (H.get _ (hb _ _ mp.live) id);refine Ok.bE ((BL (K:=K) A (d:=e) (by omega) (by omega) s (C.frame (Bx _ _) (Bx _ _) (Bx _ _)) (C8 o) x y w)) (fun _ _ p=>p.2.1) ?_;rintro _ aw h2 ⟨rfl,_⟩ _ E;have J:=E.hb o;rw[hR];have g2:=E.at o Q;simp only[Aa,Ac,As];rw[Hb l1,Ai g2 rfl (v:=.ptr b 0) rfl]
 try simp only[Aa,As]
 have V:=C.frame (E.get _ (o _ _ C.map) id) (E.get _ (o _ _ C.row) id) (E.get _ (o _ _ C.live) id);refine Ok.bE ((Jz (K:=K) (V.frame (Bx _ _) (Bx _ _) (Bx _ _)) (C8 J)).mono fun _ _ a=>(⟨a.1,a.2.1⟩:_/\_)) (fun _ _ p=>p.2) ?_;rintro _ ay h3 ⟨rfl,_⟩ _ x3;have O:=x3.hb J;have G:Ext h h3:=(H.trans E).trans x3;have ab:=G.at hb hA
 try simp only[Aa,As]
 rw[Hb la,Ai ab rfl (v:=.ptr m 0) rfl]
 try simp only[Aa,As]
 have M3:=(M.ext hb G).less fun j (hj:F j)=>Or.inl hj
 refine Ok.bE (Pe (K:=K) (M3.same (iO.lift _)) (C8 O)) (fun _ _ p=>p.2) ?_;rintro _ a1 h4 ⟨rfl,_⟩ _ x4;have ae:=x4.hb O
 try simp only[Aa,As]
 rw[ZQ];simp only[Us,Aa,HK];have u:Ext h h4:=G.trans x4;have P:Ext h1 h4:=(E.trans x3).trans x4;have M4:Db h4 m S (fun j=>F j\/j=h.next):=(M.ext hb u).less fun j hj=>by
  rcases hj with hj|hj
  ·exact .inl hj
  ·have:=P.next
   exact .inr ⟨by omega,by omega⟩
 have lA:=hb _ _ hA;have af:=mp.frame (u.get _ (hb _ _ mp.map) id) (u.get _ (hb _ _ mp.row) id) (u.get _ (hb _ _ mp.live) id);have q0:Dq S S (j6 Br 0):=⟨rfl,rfl,rfl,⟨rfl,rfl,rfl⟩,c.ev,c.up,rfl,rfl,rfl,rfl,fun _ _=>⟨rfl,rfl⟩,fun _ ⟨j,hj,_⟩=>by omega⟩;refine(A7t (K:=K) (F:=fun j=>F j\/j=h.next) A hK (.inl fA) ⟨.inl fb.1,.inl fb.2.1,.inl fb.2.2.1,fb.2.2.2⟩ (d:=e) (by omega) hR (t:=h.next) (.inr rfl) (by omega) hT U K 0 h4 S (by omega) (by omega) M4 q0 (fun j hj=>absurd hj (cI _)) ae (u.at hb hA) (P.at o Q) af).mono ?_;rintro _ h5 ⟨rfl,⟨T,M5,q5,y5⟩,ag,c5,ah⟩;exact⟨rfl,⟨T,M5.less fun i=>.inl,q5,y5⟩,ag,(Ext.to u).trans (c5.mono fun j hj=>hj.elim (fun y=>.inl fun z=>y (.inl z)) .inr),ah⟩
end
end
section
theorem TI(n:Nat):∀l:List Int,l.Nodup->(∀z∈l,0<=z/\z<n)->l.length<=cn (fun z=>decide ((z:Int)∈l)) n
 | [],_,_=>cZ _
 | a::l,nd,u=>by
  obtain⟨C,E⟩:=cK.1 nd;have H:=TI n l E fun z G=>u z (aU _ G)
  have J:=u a (aW ..);have key:∀m:Nat,cn (fun z=>decide ((z:Int)∈l)) m+(if a<m then 1 else 0)<=cn (fun z=>decide ((z:Int)∈a::l)) m:=fun m=>by
   induction m with
   | zero=>unfold cn;rw[aG (by omega)];exact aE _
   | succ m o=>
    unfold cn;by_cases h:(m:Int)=a
    ·rw[aG (show ¬decide ((m:Int)∈l)=true by rw[h];simpa using C),aI (show decide ((m:Int)∈a::l)=true by rw[h];simp),aI (by omega)]
     rw[aG (by omega)]at o;omega
    ·have e:(decide ((m:Int)∈a::l)=true)↔(decide ((m:Int)∈l)=true):=by simp[h]
     by_cases h2:decide ((m:Int)∈l)=true
     ·rw[aI h2,aI (e.2 h2)]
      split at o<;>split<;>omega
     ·rw[aG h2,aG fun y=>h2 (e.1 y)]
      split at o<;>split<;>omega
  have:=key n;rw[aI (by omega)]at this;rw[bG];omega
theorem TJ(s:Sm g){l:List Int}(nd:l.Nodup)(C:∀z∈l,Bp g z=d):l.length<=g.Z.toNat:=by
 have:=s.z0;have bd:=s.Ug
 let o:List Int:=(List.range g.Z.toNat).map fun(k:Nat)=>(d:Int)*g.Z+k
 have E:=TI (g.D*g.Z).toNat l nd fun z u=>by
  rcases Ip s z with y|⟨_,_,_,a,b⟩
  ·have:=C z u;omega
  ·exact⟨a,by omega⟩
 have h2:cn (fun z=>decide ((z:Int)∈l)) (g.D*g.Z).toNat<=cn (fun z=>decide ((z:Int)∈o)) (g.D*g.Z).toNat:=vJ _ fun z _ u=>by
  simp only[aV]at u⊢;have hd:=C _ u;rcases Ip s z with y|⟨_,_,e,a,b⟩
  ·omega
  ·refine cW.2 ⟨((z:Int)%g.Z).toNat,dL.2 ?_,?_⟩
   ·have:=Int.emod_lt_of_pos (z:Int) (show 0<g.Z by omega)
    have:=gR (z:Int) (show g.Z≠0 by omega);omega
   ·have:=gR (z:Int) (show g.Z≠0 by omega)
    have:=Int.mul_ediv_add_emod (z:Int) g.Z;rw[<-hd,e,Int.mul_comm];omega
 have G:=kN (g.D*g.Z).toNat o;have h4:o.length=g.Z.toNat:=by simp[o]
 omega
theorem TK {z:Int}:∀{es:List Me},Js es z=0->∀x∈es,x.state=1->¬x.Al=z/\¬x.Bf=z
 | [],_,x,o,_=>by cases o
 | y::es,h,x,o,u=>by
  rw[Pv]at h;have a:=wg z y;have b:=(pJ z es).1;rcases bX.1 o with rfl|o
  ·have:Vj z x=0:=by omega
   unfold Vj at this;split at this
   ·omega
   ·rename_i C
    exact⟨fun e=>C ⟨u,.inl e⟩,fun e=>C ⟨u,.inr e⟩⟩
  ·exact TK (es:=es) (by omega) x o u
section
variable{L:List (List Nat)}
theorem W6 {z:Int}:X.dead z=true↔X.closed z=true/\Ze X.S.g X.es z=0:=by
 unfold Co.dead;simp only[aS,aV]
theorem Cc.Bh6(C:Cc X L mt){z:Int}(h:X.dead z=true):∀x∈X.es,x.state=1->¬x.Al=z/\¬x.Bf=z:=by
 obtain⟨o,h2⟩:=W6.1 h;have hd:=(E0.1 o).1;refine TK ?_;unfold Ze at h2;rcases Ip C.c.sm z with y|⟨_,_,_,a,b⟩
 ·omega
 ·rw[aI ⟨a,b⟩]at h2;exact h2
theorem Cc.tz(C:Cc X L mt){z:Int}(hd:0<=Bp X.S.g z)(u:¬z=X.S.a)(h2:¬z=X.S.b):Tz X.S z:=by
 obtain⟨a,o,_⟩:=Tj C.c hd;refine⟨C.c,hd,?_⟩;obtain⟨s1,s2⟩:=C.s2 _ o;rcases cb 0 (X.S.dr.dv.zs z.toNat).st with y|y
 ·right
  rcases cb 1 (X.S.dr.dv.zs z.toNat).st with w|w
  ·omega
  ·rcases C.c.few _ o (by omega)with v|v<;>omega
 ·exact .inl ⟨by omega,s2 (by omega)⟩
theorem Cc.Bn8(C:Cc X L mt){z:Int}(h:X.closed z=true):Tz X.S z:=by
 obtain⟨a,b,c,_⟩:=E0.1 h;exact C.tz a b c
theorem Cc.Btd(C:Cc X L mt){z:Int}(h:X.closed z=true):Idle X.S fun i=>i=z.toNat:=fun w hw e=>by
 obtain⟨o,u,E,_,_,a⟩:=E0.1 h;have:w=z:=Lt C.c.sm hw o e;subst this;refine⟨u,E,fun d hd hm=>?_⟩;rw[Jf.2 ⟨d,hd,hm⟩]at a;cases a
theorem Cc.Bue(C:Cc X L mt){z:Int}(U:X.closed z=true)(V:∀x∈X.es,x.state=1->¬x.Al=z/\¬x.Bf=z)(he:(X.S.dr.dv.zs z.toNat).l = []/\(X.S.dr.dv.zs z.toNat).st=0):
 (We X.S.g X.S.g.D.toNat X.S.ps z).1=0/\X.S.iJ z = { X.S with ps:=upd X.S.ps (Bp X.S.g z).toNat (X.S.ps (Bp X.S.g z).toNat++[z]) }/\Cc { X with S:=X.S.iJ z } L mt/\∀w,({ X with S:=X.S.iJ z }:Co).closed w=(X.closed w&&!decide (w=z)):=by
 obtain⟨a1,a2,a3,a4,J,E⟩:=E0.1 U;have s:=C.c.sm;obtain⟨b1,b2⟩:Bp X.S.g z<X.S.g.D/\0<=X.S.g.D:=by
  rcases Ip s z with y|⟨_,y,_⟩
  ·omega
  ·have:=s.d0;exact⟨y,by omega⟩
 have hd:(Bp X.S.g z).toNat<X.S.g.D.toNat:=by omega
 have nd:=C.c.nd _ hd;have nm:∀d,d<X.S.g.D.toNat->z ∉ X.S.ps d:=fun d hd hm=>by rw[Jf.2 ⟨d,hd,hm⟩]at E;cases E
 have u:(X.S.ps (Bp X.S.g z).toNat++[z]).Nodup:=by
  rw[List.nodup_append];refine⟨nd,by simp,fun a ha b hb y=>?_⟩;rw[aP.1 hb]at y;subst y;exact nm _ hd ha
 have len:(X.S.ps (Bp X.S.g z).toNat).length<X.S.g.Z.toNat:=by
  have:=TJ s (d:=(Bp X.S.g z).toNat) u fun w hw=>by
   rcases bR.1 hw with y|y
   ·exact(C.c.wf.ps _ hd w y).1
   ·rw[aP.1 y];omega
  rw[aF]at this;exact this
 have O:We X.S.g X.S.g.D.toNat X.S.ps z=(0,upd X.S.ps (Bp X.S.g z).toNat (X.S.ps (Bp X.S.g z).toNat++[z])):=by
  unfold We;rw[aG (by omega),E,aG (by decide),aI len]
 have hS:X.S.iJ z = { X.S with ps:=upd X.S.ps (Bp X.S.g z).toNat (X.S.ps (Bp X.S.g z).toNat++[z]) }:=by
  unfold Mi.iJ;rw[O]
 have mem:∀d w,w∈upd X.S.ps (Bp X.S.g z).toNat (X.S.ps (Bp X.S.g z).toNat++[z]) d->w∈X.S.ps d\/(w=z/\d=(Bp X.S.g z).toNat):=fun d w hw=>by
  unfold upd at hw;split at hw
  ·rename_i e
   subst e;rcases bR.1 hw with y|y
   ·exact .inl y
   ·exact .inr ⟨aP.1 y,rfl⟩
  ·exact .inl hw
 have o:∀w,({ X with S:=X.S.iJ z }:Co).closed w=(X.closed w&&!decide (w=z)):=fun w=>by
  have hb:hasB (upd X.S.ps (Bp X.S.g z).toNat (X.S.ps (Bp X.S.g z).toNat++[z])) X.S.g.D.toNat w=(hasB X.S.ps X.S.g.D.toNat w||decide (w=z)):=by
   rw[eR,dZ,aV,Jf,Jf];constructor
   ·rintro⟨d,hd,hm⟩
    rcases mem d w hm with y|y
    ·exact .inl ⟨d,hd,y⟩
    ·exact .inr y.1
   ·rintro(⟨d,G,hm⟩|rfl)
    ·refine⟨d,G,?_⟩
     unfold upd;split
     ·rename_i e;subst e;exact bR.2 (.inl hm)
     ·exact hm
    ·refine⟨_,hd,?_⟩
     unfold upd;rw[aI rfl];simp
  rw[hS];unfold Co.closed;show(_&&(_&&(_&&(_&&(_&&!hasB (upd _ _ _) _ w)))))=_;rw[hb];cases decide (w=z)<;>simp[Mi.E6]
 refine⟨by rw[O],hS,?_,o⟩;have c':Calm (X.S.iJ z):=by
  rw[hS];refine⟨{ toWp:=⟨C.c.wf.sm,fun d hd w hw=>?_⟩,op:=C.c.wf.op },C.c.rt,C.c.ev,C.c.up,C.c.n,C.c.size,C.c.op,C.c.bad,fun d hd=>?_,fun d hd w hw=>?_,?_,C.c.few⟩
  ·rcases mem d w hw with y|⟨rfl,y⟩
   ·exact C.c.wf.ps d hd w y
   ·exact⟨by show Bp X.S.g w=d;omega,C.c.bad _⟩
  ·show(upd X.S.ps _ _ d).Nodup
   unfold upd;split
   ·exact u
   ·exact C.c.nd d hd
  ·rcases mem d w hw with y|⟨rfl,y⟩
   ·exact C.c.fr d hd w y
   ·exact he
  ·rcases C.c.opn with y|⟨y1,y2,y3,y4,y5,P,y7⟩
   ·exact .inl y
   ·refine .inr ⟨y1,y2,y3,y4,y5,fun d hd=>⟨fun hm=>?_,fun hm=>?_⟩,y7⟩
    ·rcases mem d _ hm with w|w
     ·exact(P d hd).1 w
     ·exact a2 w.1.symm
    ·rcases mem d _ hm with w|w
     ·exact(P d hd).2 w
     ·exact a3 w.1.symm
 refine⟨c',C.un,by rw[hS];exact C.ar,fun w hw=>?_,by rw[hS];exact C.s2,by rw[hS];exact C.opm,C.len,by rw[hS];exact C.lb,fun b x bs Q H=>?_,C.sq,C.nm,by rw[hS];exact C.hd⟩
 ·have hw:arB X w:=hw
  obtain⟨r1,r2,r3,r4⟩:=C.arz w hw;rw[hS];refine⟨r1,r2,fun d hd hm=>?_,r4⟩;rcases mem d w hm with y|y
  ·exact r3 d hd y
  ·rw[y.1]at hw
   rw[(C.Wy z).2 hw]at J;cases J
 ·rcases C.A0t b x bs Q H with y|y
  ·exact .inl y
  ·obtain⟨n1,n2⟩:=V x (bc Q) y.st
   refine .inr ⟨y.st,by rw[hS];exact y.ok,?_,y.m1,y.m2,?_⟩
   ·obtain⟨e,q⟩:=y.rc.ex
    rw[hS];exact⟨e,q⟩
   ·rw[o,o]
    rcases y.wh with w|w
    ·left;rw[hS];exact w
    ·right
     rw[w.1,w.2,aJ n1,aJ n2];exact⟨rfl,rfl⟩
end
end
section
structure Kc(X Y:Co):Prop where
 es:Y.es=X.es
 nm:Y.gen=X.gen/\Y.ep=X.ep/\Y.nx=X.nx/\Y.st=X.st
 g:Y.S.g=X.S.g
 o:Y.S.a=X.S.a/\Y.S.b=X.S.b/\Y.S.u=X.S.u
theorem Kc.refl(X:Co):Kc X X:=⟨rfl,⟨rfl,rfl,rfl,rfl⟩,rfl,rfl,rfl,rfl⟩
theorem Kc.trans(a:Kc X Y)(b:Kc Y Z):Kc X Z:=⟨b.es.trans a.es,⟨b.nm.1.trans a.nm.1,b.nm.2.1.trans a.nm.2.1,b.nm.2.2.1.trans a.nm.2.2.1,b.nm.2.2.2.trans a.nm.2.2.2⟩,b.g.trans a.g,b.o.1.trans a.o.1,b.o.2.1.trans a.o.2.1,b.o.2.2.trans a.o.2.2⟩
structure vM(X Y:Co)(i:Int):Prop where
 k:Kc X Y
 cl:∀z,Y.closed z=(X.closed z&&!(X.dead z&&decide (z<i)))
 fr:∀z,X.dead z=true->z<i->z∈Y.S.ps (Bp X.S.g z).toNat
 pre:∀d,∃ex,Y.S.ps d=X.S.ps d++ex
theorem Kc.dead(k:Kc X Y)(z:Int):Y.dead z=(Y.closed z&&decide (Ze X.S.g X.es z=0)):=by unfold Co.dead;rw[k.es,k.g]
section
variable (A:Bv disp)(hK:10000<K){L:List (List Nat)}
include A hK
theorem Bg0(C:C0 h B X F)(c:Cc X L mt){z:Int}(Q:X.dead z=true)(hd:19<=d):Ok (Ag TT disp K d false 101 [.ptr B.c 0,I z] h) fun v h'=>v=I 0/\∃Y,Ee h h' B X F Y/\Cc Y L mt/\Kc X Y/\(∀w,Y.closed w=(X.closed w&&!decide (w=z)))/\Y.S.ps=upd X.S.ps (Bp X.S.g z).toNat (X.S.ps (Bp X.S.g z).toNat++[z]):=by
 obtain⟨e,rfl⟩:∃k,d=k+1:=⟨d-1,by omega⟩;have o:=(W6.1 Q).1;have t:=c.Bn8 o;have rz:=Yf c.c.sm t.d;have U:=c.Bh6 Q;rw[Anr A (by omega)];simp only[HC,Aa];rw[C.ic];obtain⟨D,V,dr⟩:=mX A hK C.M C.hb;rw[dr.D4];refine Ok.Am (dr.reset (d:=e) (by omega) z (by rw[(ri X.S.dr z).size];exact C.wf.sz)) ?_;rintro v h2 ⟨rfl,M2,k2,E⟩;have c2:=C.H2 M2 k2 E (rv (ZC _ z));obtain⟨r1,u⟩:=TE t;rw[r1];have q:=TG t u (.inr rfl);have lv:∀x∈X.es,x.state=1->¬x.Al.toNat=z.toNat/\¬x.Bf.toNat=z.toNat:=fun x hx G=>by
  obtain⟨n1,n2⟩:=U x hx G;obtain⟨b,hb⟩:=cj.1 hx;have H:b<L.length:=by rw[c.len];exact(aY.1 hb).1
  rcases c.A0t b x _ hb (aD H)with w|w
  ·rw[w.1]at G;cases G
  ·obtain⟨z1,z2⟩:=w.jr
   exact⟨fun y=>n1 (Lt c.c.sm z1 t.d y),fun y=>n2 (Lt c.c.sm z2 t.d y)⟩
 have J:=c.dq q (c.Btd o) lv fun i hi y=>by
  have e:=Lt c.c.sm (by have:=(c.ar i hi).1;omega) t.d y;have:=(E0.1 o).2.2.2.2.1;rw[(c.Wy z).2 ⟨i,hi,.inl e.symm⟩]at this;cases this
 have e0:(u.here.1:_)=u.here.1:=rfl;have he:((X.S.dr.reset z).1.dv.zs z.toNat).l = []/\((X.S.dr.reset z).1.dv.zs z.toNat).st=0:=by
  obtain⟨a,b⟩:=u.here;have:=t.pos;rw[aG (by show ¬0=_;omega),aI (show([]:List (List EV)).length=0 from rfl)]at b;exact⟨a,b⟩
 simp only[I,Ac,aC,Aa];rw[c2.C.ic];have O:({ X with S:={ X.S with dr:=(X.S.dr.reset z).1 } }:Co).closed z=true:=by rw[Na q];exact o
 obtain⟨g1,g2,g3,g4⟩:=J.Bue O U he;obtain⟨p,e1,e2⟩:=TL c2.C.M c2.C.hb A hK;rw[e1,Au];refine Ok.Am (e2 (d:=e) (by omega) rz fun _=>c.c.bad _) ?_;rintro v h3 ⟨rfl,M3,k3,P⟩;rw[show(We ({ X with S:={ X.S with dr:=(X.S.dr.reset z).1 } }:Co).S.g ({ X with S:={ X.S with dr:=(X.S.dr.reset z).1 } }:Co).S.g.D.toNat ({ X with S:={ X.S with dr:=(X.S.dr.reset z).1 } }:Co).S.ps z).1=0 from g1];have c3:=c2.trans (c2.C.H2 M3 k3 P (Ν _ _));refine .ret ⟨rfl,_,c3,g3,⟨rfl,⟨rfl,rfl,rfl,rfl⟩,rfl,rfl,rfl,rfl⟩,fun w=>?_,?_⟩
 ·have:=g4 w
  rw[Na q]at this;exact this
 ·show(({ X.S with dr:=(X.S.dr.reset z).1 }:Mi).iJ z).ps=_
  rw[g2]
theorem A6z(hn:X.S.g.D*X.S.g.Z=n)(hd:19<=d)(P:Sm X.S.g):∀(f i:Nat) (H:Ab) (Y:Co),n-i<f->i<=n->Ee h H B X F Y->Cc Y L mt->vM X Y i ->
 Ok (Fy (Ag TT disp K d false) (Ag TT disp K d true) K f (.ptr B.c 0) (I n) (I i) H) fun v h'=>v=I 0/\∃Z,Ee h h' B X F Z/\Cc Z L mt/\vM X Z n:=by
 intro f;induction f with
 | zero=>intro i H Y Q;omega
 | succ f U=>
  intro i H Y Q hi c1 O r;have bd:=P.Ug;rw[Fy];simp only[I,Ac];by_cases V:i<n
  ·have:decide ((i:Int)<(n:Int))=true:=by simp;omega
   simp only[this,Aa,Wi];refine Ok.Am (DT A hK c1.C (d:=d) (by omega) (z:=i) ⟨by omega,by omega⟩) ?_;rintro v h2 ⟨rfl,r2⟩;have c2:=c1.trans (c1.C.rd r2);have nx:∀o Z,Ee h o B X F Z->Cc Z L mt->vM X Z (i+1:Nat)->Ok (Kg (Ag TT disp K d false) (Ag TT disp K d true) K (Fy (Ag TT disp K d false) (Ag TT disp K d true) K f) (.ptr B.c 0) (.int .i64 (n:Int)) (.int .i64 (i:Int)) o) fun v h'=>v=I 0/\∃Z,Ee h h' B X F Z/\Cc Z L mt/\vM X Z n:=fun o Z c3 a r3=>by
    simp only[Kg,Ac];rw[Cl,show((i:Nat):Int)+1=((i+1:Nat):Int) by omega];exact U (i+1) o Z (by omega) (by omega) c3 a r3
   have u:Y.dead i=X.dead i:=by
    rw[r.k.dead,r.cl,aJ (show ¬(i:Int)<i by omega)];unfold Co.dead;simp
   rw[u];cases J:X.dead i with
   | false=>
    simp only[Aa];refine nx _ _ c2 O ⟨r.k,fun z=>?_,fun z E hl=>?_,r.pre⟩
    ·rw[r.cl]
     by_cases e:z=i
     ·subst e;rw[J];simp
     ·have:decide (z<(i:Int))=decide (z<((i+1:Nat):Int)):=by rw[eO];omega
      rw[this]
    ·by_cases e:z=i
     ·subst e;rw[J]at E;cases E
     ·exact r.fr z E (by omega)
   | true=>
    simp only[Aa,Wo];refine Ok.Am (Bg0 A hK c2.C O (z:=i) (by rw[u];exact J) hd) ?_;rintro _ o ⟨rfl,Z,c3,a,k3,Kk,G⟩;simp only[I,Ac,aB,aA,Aa];refine nx _ _ (c2.trans c3) a ⟨r.k.trans k3,fun z=>?_,fun z E hl=>?_,fun d=>?_⟩
    ·rw[Kk,r.cl]
     by_cases e:z=i
     ·subst e;rw[J,aM (show((i:Nat):Int)<((i+1:Nat):Int) by omega)];simp
     ·have:decide (z<(i:Int))=decide (z<((i+1:Nat):Int)):=by rw[eO];omega
      rw[this,aJ e];simp
    ·rw[G,r.k.g]
     by_cases e:z=i
     ·subst e
      unfold upd;rw[aI rfl];simp
     ·have:=r.fr z E (by omega)
      unfold upd;split
      ·rename_i e2;rw[<-e2];exact bR.2 (.inl this)
      ·exact this
    ·obtain⟨ex,he⟩:=r.pre d
     rw[G];unfold upd;split
     ·rename_i e2;subst e2;rw[he];exact⟨ex++[(i:Int)],by rw[bY]⟩
     ·exact⟨ex,he⟩
  ·have:i=n:=by omega
   subst this;have:decide ((i:Int)<(i:Int))=false:=by simp
   simp only[this,Aa,Wl];exact .ret ⟨rfl,Y,c1,O,r⟩
end
theorem Cc.swap{L:List (List Nat)}(C:Cc X L mt)(hd:∀i,i<3->Bdj X.S (X.gen+1) (X.Br i)):Cc { X with gen:=X.gen+1,cur:=d_ X.cur X.Br 3,Br:=d_ X.Br X.cur 3 } L mt/\∀z,({ X with gen:=X.gen+1,cur:=d_ X.cur X.Br 3,Br:=d_ X.Br X.cur 3 }:Co).closed z=X.closed z:=by
 have e:∀(f k:Nat->Int) i,i<3->d_ f k 3 i=k i:=fun f k i o=>aI o
 have ar:∀z,arB { X with gen:=X.gen+1,cur:=d_ X.cur X.Br 3,Br:=d_ X.Br X.cur 3 } z↔arB X z:=fun z=>by
  constructor
  ·rintro⟨i,o,h⟩
   refine⟨i,o,?_⟩;have h:z=d_ X.cur X.Br 3 i\/z=d_ X.Br X.cur 3 i:=h;rw[e _ _ _ o,e _ _ _ o]at h;exact h.symm
  ·rintro⟨i,o,h⟩
   refine⟨i,o,?_⟩;show z=d_ X.cur X.Br 3 i\/z=d_ X.Br X.cur 3 i;rw[e _ _ _ o,e _ _ _ o];exact h.symm
 have u:∀z,Go.Ev.Wy (d_ X.cur X.Br 3) (d_ X.Br X.cur 3) z=Go.Ev.Wy X.cur X.Br z:=fun z=>by
  rw[eR,vL,vL];constructor
  ·rintro⟨i,o,h⟩
   rw[e _ _ _ o,e _ _ _ o]at h;exact⟨i,o,h.symm⟩
  ·rintro⟨i,o,h⟩
   refine⟨i,o,?_⟩;rw[e _ _ _ o,e _ _ _ o];exact h.symm
 have cl:∀z,({ X with gen:=X.gen+1,cur:=d_ X.cur X.Br 3,Br:=d_ X.Br X.cur 3 }:Co).closed z=X.closed z:=fun z=>by
  unfold Co.closed;simp only[u]
 refine⟨⟨C.c,C.un,fun i o=>?_,fun z E=>C.arz z ((ar z).1 E),C.s2,C.opm,C.len,C.lb,fun b x bs G H=>?_,C.sq,⟨by show 0<=X.gen+1;have:=C.nm.1;omega,C.nm.2⟩,.inr fun i o=>by show Bdj X.S (X.gen+1) (d_ X.cur X.Br 3 i);rw[e _ _ _ o];exact hd i o⟩,cl⟩
 ·obtain⟨a,b,c⟩:=C.ar i o
  show Bp X.S.g (d_ X.cur X.Br 3 i)=i/\Bp X.S.g (d_ X.Br X.cur 3 i)=i/\¬d_ X.cur X.Br 3 i=d_ X.Br X.cur 3 i;rw[e _ _ _ o,e _ _ _ o];exact⟨b,a,fun y=>c y.symm⟩
 ·rcases C.A0t b x bs G H with y|y
  ·exact .inl y
  ·exact .inr ⟨y.st,y.ok,y.rc,y.m1,y.m2,by rw[cl,cl];exact y.wh⟩
end
section
structure kO(X Y:Co):Prop where
 es:Y.es=X.es
 nm:Y.gen=X.gen+1/\Y.ep=X.ep/\Y.nx=X.nx/\Y.st=X.st
 g:Y.S.g=X.S.g
 o:Y.S.a=X.S.a/\Y.S.b=X.S.b/\Y.S.u=X.S.u
 cl:∀z,Y.closed z=(X.closed z&&!X.dead z)
 fr:∀z,X.dead z=true->z∈Y.S.ps (Bp X.S.g z).toNat
 pre:∀d,∃ex,Y.S.ps d=X.S.ps d++ex
theorem kO.dead(c:kO X Y)(z:Int):Y.dead z=false:=by
 have h:=c.cl z;unfold Co.dead at h⊢;rw[h,c.es,c.g];cases X.closed z<;>cases decide (Ze X.S.g X.es z=0)<;>rfl
theorem Br6{L:List (List Nat)}(C:Cc X L mt)(u:X.gen<281474976710655)(h2:X.nx<=281474976710655):iH (X.gen+1) X.ep X.nx X.es=true:=by
 obtain⟨a,b,c⟩:=C.nm;have l:mU X.nx X.es=false:=by
  unfold mU;rw[List.any_eq_false];intro x o;have:=C.sq x o;simp only[aV];omega
 unfold iH;rw[l,b];simp only[aS,aV,dJ];exact⟨⟨by omega,by omega⟩,⟨by omega,by omega⟩,⟨by omega,by omega⟩,trivial⟩
section
variable (A:Bv disp)(hK:10000<K){L:List (List Nat)}
include A hK
theorem vN(C:C0 h B X F)(c:Cc X L mt)(hg:X.gen<281474976710655)(hx:X.nx<=281474976710655)(hd:21<=d:=by omega):Ok (Ag TT disp K d false 61 [.ptr B.c 0] h) fun v h'=>v=I 0/\∃Y,Ee h h' B X F Y/\Cc Y L mt/\kO X Y:=by
 obtain⟨e,rfl⟩:∃k,d=k+1:=⟨d-1,by omega⟩;rw[Ajm A (by omega)];simp only[JF,Aa];rw[C.ic];obtain⟨D,V,dr⟩:=mX A hK C.M C.hb;rw[dr.D4];have hf:=tc c.c.ev c.c.up;refine Ok.Am (dr.flush (d:=e) (by omega)) ?_;rintro v h1 ⟨rfl,M1,kf,bf⟩;have c1:=C.H2 M1 kf bf (rv (tO _));have q1:Dq X.S { X.S with dr:=X.S.dr.flush.1 } fun _=>False:=by rw[hf];exact Dq.Rt c.c
 have Q:=c.dq q1 (fun _ _ y=>y.elim) (fun _ _ _=>⟨id,id⟩) fun _ _=>id
 rw[hf];rw[hf]at c1 Q q1;have k1:Kc X { X with S:={ X.S with dr:=X.S.Rt.dr } }:=⟨rfl,⟨rfl,rfl,rfl,rfl⟩,rfl,rfl,rfl,rfl⟩;have l1:∀z,({ X with S:={ X.S with dr:=X.S.Rt.dr } }:Co).closed z=X.closed z:=Na q1;have p1:({ X with S:={ X.S with dr:=X.S.Rt.dr } }:Co).S.ps=X.S.ps:=rfl;have ah:({ X with S:={ X.S with dr:=X.S.Rt.dr } }:Co).gen=X.gen:=rfl;simp only at c1 Q;generalize ({ X with S:={ X.S with dr:=X.S.Rt.dr } }:Co)=G at c1 Q k1 l1 p1 ah;simp only[Ac,aB,aA,Aa,Wm];rw[c1.C.DH];simp only[I,Ac];rw[Cl (by have:=Q.nm.1;omega)];have lc:=c1.hb _ _ c1.C.core;refine Ok.gT c1.C.core rfl rfl (by show 3<7;decide) ?_;have c2:=c1.trans (c1.C.wY (G.gen+1) G.ep G.nx G.st);have e2:(G.cells B).set 3 (.int .i64 (G.gen+1))=({ G with gen:=G.gen+1,ep:=G.ep,nx:=G.nx,st:=G.st }:Co).cells B:=rfl;rw[e2];have hR:iH (G.gen+1) G.ep G.nx G.es=true:=Br6 Q (by rw[ah];exact hg) (by rw[k1.nm.2.2.1];exact hx);have k2:({ G with gen:=G.gen+1,ep:=G.ep,nx:=G.nx,st:=G.st }:Co).es=X.es/\(G.gen+1=X.gen+1/\G.ep=X.ep/\G.nx=X.nx/\G.st=X.st)/\G.S.g=X.S.g/\(G.S.a=X.S.a/\G.S.b=X.S.b/\G.S.u=X.S.u)/\(∀z,({ G with gen:=G.gen+1,ep:=G.ep,nx:=G.nx,st:=G.st }:Co).closed z=X.closed z)/\G.S.ps=X.S.ps:=⟨k1.es,⟨by rw[ah],k1.nm.2.1,k1.nm.2.2.1,k1.nm.2.2.2⟩,k1.g,k1.o,l1,p1⟩;have eY:∀E:Co,E = { G with gen:=G.gen+1,ep:=G.ep,nx:=G.nx,st:=G.st }->iH E.gen E.ep E.nx E.es=true/\E.es=X.es/\(E.gen=X.gen+1/\E.ep=X.ep/\E.nx=X.nx/\E.st=X.st)/\E.S.g=X.S.g/\(E.S.a=X.S.a/\E.S.b=X.S.b/\E.S.u=X.S.u)/\(∀z,E.closed z=X.closed z)/\E.S.ps=X.S.ps/\E.gen=G.gen+1/\Cc { E with gen:=G.gen } L mt:=fun E h=>by subst h;exact⟨hR,k2.1,k2.2.1,k2.2.2.1,k2.2.2.2.1,k2.2.2.2.2.1,k2.2.2.2.2.2,rfl,Q⟩
 have aq:=eY _ rfl;generalize ({ G with gen:=G.gen+1,ep:=G.ep,nx:=G.nx,st:=G.st }:Co)=E at c2 aq⊢;generalize h1.put B.c (.cells (E.cells B) 109)=h2 at c2⊢;obtain⟨au,bn,bo,g2,o2,l2,p2,ai,H⟩:=aq;have aj:Sm E.S.g:=H.c.sm;have O:∀i,i<3->Bp E.S.g (E.cur i)=i/\Bp E.S.g (E.Br i)=i/\¬E.cur i=E.Br i:=H.ar;have ab:∀z,arB E z->¬z=E.S.a/\¬z=E.S.b/\(∀d,d<E.S.g.D.toNat->z ∉ E.S.ps d)/\¬(E.S.dr.dv.zs z.toNat).st=1:=H.arz;have ad:=c2.hb _ _ c2.C.core;rw[Hb ad,c2.C.Hb];simp only[Aa,As];rw[Hb ad,c2.C.DH];simp only[Aa,As];rw[Hb ad,c2.C.wZ];simp only[Aa,As];rw[Hb ad,c2.C.kC];simp only[Aa,As];rw[Hb ad,c2.C.ji];simp only[Aa,As];rw[Ax (l:=[I E.gen,I E.ep,I E.nx,.ptr B.b 0]) rfl];obtain⟨n1,n2,n3,n4,n5,n6,n7,n8,n9,c6⟩:=c2.C.ne;have C2:=c2.C.lift;have hT:∀i,i<3->Tz E.S (E.Br i)/\E.S.E6 (E.Br i)=false/\Bp E.S.g (E.Br i)=i:=fun i J=>by
  obtain⟨_,b,_⟩:=O i J;obtain⟨a1,a2,_⟩:=ab _ ⟨i,J,.inr rfl⟩;exact⟨H.tz (show 0<=Bp E.S.g (E.Br i) by omega) a1 a2,H.E6 _,b⟩
 have ax:Idle E.S (j6 E.Br 3):=fun z P ⟨i,J,ei⟩=>by
  obtain⟨_,b,_⟩:=O i J;have:z=E.Br i:=Lt aj P (by omega) ei;obtain⟨a1,a2,a3,_⟩:=ab z ⟨i,J,.inr this⟩;exact⟨a1,a2,a3⟩
 have wr:=Boo (K:=K) A hK (ar:=B.ar) (m:=B.m) (b:=B.b) (ml:=B.ml) (ll:=B.ll) (F:=B.fr F) (es:=E.es) (.inr (.inr (.inl rfl))) ⟨.inr (.inr (.inr (.inl rfl))),.inr (.inr (.inr (.inr (.inl rfl)))),.inr (.inr (.inr (.inr (.inr rfl)))),n5.symm,n6.symm,n7.symm⟩ (x:=E.gen) (y:=E.ep) (w:=E.nx) (d:=e) (by omega) au H.c hT ax C2.M C2.hb C2.ar C2.map;refine Ok.bC (S:=fun j=>¬B.fr F j\/j=B.ar) wr (fun _ _ p=>p.2.2.2.1) ?_;rintro _ c8 h3 s' ⟨rfl,⟨T,M3,U,x3⟩,A3,_,bw⟩ sm ch df;have bx:Bio T (d_ E.cur E.Br 3) (d_ E.Br E.cur 3):=by
  refine⟨fun i J=>.inr ?_,fun i J=>.inr ?_⟩
  ·rw[show d_ E.cur E.Br 3 i=E.Br i from aI J,U.g];exact(O i J).2.1
  ·rw[show d_ E.Br E.cur 3 i=E.cur i from aI J,U.g];exact(O i J).1
 have c3:=c2.trans (c2.C.ZT (M3.same sm) (by rw[sm.get];exact A3) ch (sm.hb bw) (U.mk' H.c) bx);have lv:∀x∈E.es,x.state=1->¬j6 E.Br 3 x.Al.toNat/\¬j6 E.Br 3 x.Bf.toNat:=fun x hx h1=>by
  obtain⟨b,hb⟩:=cj.1 hx;have bz:b<L.length:=by rw[H.len];exact(aY.1 hb).1
  rcases H.A0t b x _ hb (aD bz)with w|w
  ·rw[w.1]at h1;cases h1
  ·obtain⟨z1,z2⟩:=w.jr
   have no:∀z,0<=Bp E.S.g z->(z=E.S.a\/z=E.S.b\/E.closed z=true)->¬j6 E.Br 3 z.toNat:=fun z P hw ⟨i,J,ei⟩=>by
    obtain⟨_,bb,_⟩:=O i J;have e':z=E.Br i:=Lt aj P (by omega) ei;obtain⟨a1,a2,_⟩:=ab z ⟨i,J,.inr e'⟩;rcases hw with w|w|w
    ·exact a1 w
    ·exact a2 w
    ·have:=(E0.1 w).2.2.2.2.1
     rw[(H.Wy z).2 ⟨i,J,.inr e'⟩]at this;cases this
   rcases w.wh with⟨w1,w2⟩|⟨w1,w2⟩
   ·exact⟨no _ z1 (.inl w1),no _ z2 (.inr (.inl w2))⟩
   ·exact⟨no _ z1 (.inr (.inr w1)),no _ z2 (.inr (.inr w2))⟩
 have ha:∀i,i<3->¬j6 E.Br 3 (E.cur i).toNat:=fun i J ⟨j,hj,e⟩=>by
  obtain⟨a1,_,a3⟩:=O i J;obtain⟨_,b2,_⟩:=O j hj;have e':E.cur i=E.Br j:=Lt aj (by omega) (by omega) e;have:i=j:=by rw[e']at a1;omega
  subst this;exact a3 e'
 have ay:=H.nm.2.1;obtain⟨b5,l3⟩:=(H.dq U ax lv ha).swap fun i J=>⟨E.es,E.nx,by show iH (G.gen+1) 1 E.nx E.es=true;rw[<-ai,<-ay];exact au,by show ∀x∈E.es,meR T.g x=true;rw[U.g];exact c2.C.map.ok,by show E.es.length=T.g.B.toNat;rw[U.g];exact c2.C.map.len,by show _=mM T.g E.es (G.gen+1) 1 E.nx (E.Br i);rw[U.g,<-ai,<-ay];exact x3 i J⟩
 have b6:∀z,({ E with S:=T,cur:=d_ E.cur E.Br 3,Br:=d_ E.Br E.cur 3 }:Co).closed z=X.closed z:=fun z=>(l3 z).trans ((Na U z).trans (l2 z))
 have g3:T.g=X.S.g:=U.g.trans g2;have o3:T.a=X.S.a/\T.b=X.S.b/\T.u=X.S.u:=⟨U.o.1.trans o2.1,U.o.2.1.trans o2.2.1,U.o.2.2.trans o2.2.2⟩;have p3:T.ps=X.S.ps:=U.ps.trans p2;simp only[Aa,I,Ac,aB,aA,Wu];have ag:Cc ({ E with S:=T,cur:=d_ E.cur E.Br 3,Br:=d_ E.Br E.cur 3 }:Co) L mt:=by
  have:Cc ({ E with S:=T,gen:=G.gen+1,cur:=d_ E.cur E.Br 3,Br:=d_ E.Br E.cur 3 }:Co) L mt:=b5;rw[<-ai]at this;exact this
 have eZ:∀Z:Co,Z = { E with S:=T,cur:=d_ E.cur E.Br 3,Br:=d_ E.Br E.cur 3 }->Z.es=X.es/\(Z.gen=X.gen+1/\Z.ep=X.ep/\Z.nx=X.nx/\Z.st=X.st)/\Z.S.g=X.S.g/\(Z.S.a=X.S.a/\Z.S.b=X.S.b/\Z.S.u=X.S.u)/\(∀z,Z.closed z=X.closed z)/\Z.S.ps=X.S.ps:=fun Z h=>by subst h;exact⟨bn,bo,g3,o3,b6,p3⟩
 have az:=eZ _ rfl;generalize ({ E with S:=T,cur:=d_ E.cur E.Br 3,Br:=d_ E.Br E.cur 3 }:Co)=Z at c3 ag az;obtain⟨a0,ae,gZ,oZ,lZ,pZ⟩:=az;rw[c3.C.ic];refine rE A c3.C fun h4 x4=>?_
 have c4:=c3.C.Y8 x4;have bd:=C.sm.Ug;obtain⟨n,hn⟩:=bA (show 0<=X.S.g.D*X.S.g.Z by omega);rw[gZ,hn];have dx:=c3.trans c4;refine(A6z (X:=Z) A hK (by rw[gZ];exact hn) (d:=e) (by omega) c3.C.sm K 0 h4 Z (by omega) (by omega) c4 ag ⟨Kc.refl Z,fun z=>?_,fun z P hl=>?_,fun d=>⟨[],by simp⟩⟩).mono ?_
 ·cases P:Z.dead z with
  | false=>simp
  | true=>
   have:=(E0.1 (W6.1 P).1).1;have:=Iq c3.C.sm this;rw[aJ (show ¬z<((0:Nat):Int) by omega)];simp
 ·have:=Iq c3.C.sm (E0.1 (W6.1 P).1).1
  omega
 rintro v h5 ⟨rfl,Y,c5,b8,r5⟩;have a5:∀z,Z.dead z=X.dead z:=fun z=>by unfold Co.dead;rw[lZ,a0,gZ]
 have lt:∀z,X.dead z=true->z<(n:Int):=fun z P=>by
  have:=(E0.1 (W6.1 P).1).1;rcases Ip C.sm z with y|⟨_,_,_,_,y⟩
  ·omega
  ·omega
 refine⟨rfl,Y,c3.trans c5,b8,⟨r5.k.es.trans a0,⟨r5.k.nm.1.trans ae.1,r5.k.nm.2.1.trans ae.2.1,r5.k.nm.2.2.1.trans ae.2.2.1,r5.k.nm.2.2.2.trans ae.2.2.2⟩,r5.k.g.trans gZ,⟨r5.k.o.1.trans oZ.1,r5.k.o.2.1.trans oZ.2.1,r5.k.o.2.2.trans oZ.2.2⟩,fun z=>?_,fun z P=>?_,fun d=>?_⟩⟩
 ·rw[r5.cl,a5,lZ]
  cases P:X.dead z with
  | false=>simp
  | true=>rw[aM (lt z P)];simp
 ·have:=r5.fr z (by rw[a5];exact P) (lt z P)
  rw[gZ]at this;exact this
 ·obtain⟨ex,he⟩:=r5.pre d
  exact⟨ex,by rw[he,pZ]⟩
end
end
section
theorem ze{a:Nat}(o:¬a=b)(C:a<n)(hb:b<n)(h:∀e,e<n->(ps e).length<=(c_ e).length):Od ps n+(c_ a).length+(c_ b).length<=Od c_ n+(ps a).length+(ps b).length:=by
 have u:=sX (ps:=ps) (d:=a) (l:=c_ a) n;rw[aI C]at u;have m:=y8 (ps:=upd ps a (c_ a)) (c_:=c_) (d:=b) n hb fun e he=>by
  unfold upd;split
  ·rename_i e2;rw[e2];exact aE _
  ·exact h e he
 rw[show upd ps a (c_ a) b=ps b from aG (fun y=>o y.symm)]at m;omega
theorem Bco{a:Nat}(o:¬a=b)(u:a<n)(hb:b<n)(h:∀e,e<n->(ps e).length<=(c_ e).length)(E:(ps a).length<(c_ a).length)(lb:(ps b).length<(c_ b).length):Ft ps n+1<=Ft c_ n:=by
 obtain⟨p1,C⟩:=(pA (ps:=ps) (n:=n) (by omega) _).1 (cO (Ft ps n));refine(pA (by omega) _).2 ⟨?_,fun d hd=>?_⟩
 ·have:=ze o u hb h;omega
 ·have G:=C d hd
  by_cases e1:d=a
  ·subst e1;have:=ze o u hb h;omega
  ·have:=ze (a:=d) (b:=a) e1 hd u h;omega
section
variable{L:List (List Nat)}
theorem Bjt(g:T.g=S.g)(o:T.a=S.a/\T.b=S.b/\T.u=S.u):T.room=S.room:=by unfold Mi.room;rw[g,o.1,o.2.2]
theorem kO.len(k:kO X Y):∀d,(X.S.ps d).length<=(Y.S.ps d).length:=fun d=>by
 obtain⟨ex,he⟩:=k.pre d;rw[he,aF];omega
theorem kO.free(k:kO X Y)(c:Cc X L mt):X.S.free<=Y.S.free/\(∀z1 u,X.dead z1=true->X.dead u=true->¬Bp X.S.g z1=Bp X.S.g u->X.S.free+X.S.g.S<=Y.S.free):=by
 have s:=c.c.sm;have:=s.d0;have:=s.s0;unfold Mi.free;rw[k.g,Bjt k.g k.o];refine⟨?_,fun z1 u J h2 hd=>?_⟩
 ·have:=bT (Bdi (n:=X.S.g.D.toNat) (by omega) fun d _=>k.len d) (show 0<=X.S.g.S by omega)
  omega
 ·have dz:∀z,X.dead z=true->0<=Bp X.S.g z/\(Bp X.S.g z).toNat<X.S.g.D.toNat/\(X.S.ps (Bp X.S.g z).toNat).length<(Y.S.ps (Bp X.S.g z).toNat).length:=fun z E=>by
   obtain⟨G,_,_,_,_,H⟩:=E0.1 (W6.1 E).1;have C:(Bp X.S.g z).toNat<X.S.g.D.toNat:=by
    rcases Ip s z with y|⟨_,y,_⟩<;>omega
   refine⟨G,C,?_⟩;obtain⟨ex,he⟩:=k.pre (Bp X.S.g z).toNat;have hm:=k.fr z E;rw[he]at hm⊢;rcases bR.1 hm with y|y
   ·rw[Jf.2 ⟨_,C,y⟩]at H;cases H
   ·have:=List.length_pos_of_mem y
    rw[aF];omega
  obtain⟨G,O,P⟩:=dz z1 J;obtain⟨b1,b2,b3⟩:=dz u h2;have:=Bco (a:=(Bp X.S.g z1).toNat) (b:=(Bp X.S.g u).toNat) (by omega) O b2 (fun d _=>k.len d) P b3;have:=bT this (show 0<=X.S.g.S by omega);rw[Int.mul_add,Int.mul_one]at this;omega
end
structure Pt(X Y:Co)(mt mt':Int->Int)(e:En)(x:Me):Prop where
 es:Y.es=X.es
 nm:Y.gen=X.gen/\Y.ep=X.ep/\Y.nx=X.nx+1/\Y.st=X.st
 g:Y.S.g=X.S.g
 free:X.S.free-1<=Y.S.free
 cl:∀z,X.closed z=true->Y.closed z=true
 mt:∀x∈X.es,x.state=1->mt' x.Al=mt x.Al/\mt' x.Bf=mt x.Bf
 lv:¬e.kind=2->Mr Y mt' x e.bytes
 sq:x.seq=X.nx
 st:x.state=1
 sm:x.sum=(Fl e.bytes:Nat)
 rg:Rng x.Al/\Rng x.Bf
 op:x.Al=Y.S.a/\x.Bf=Y.S.b
theorem TM{L:List (List Nat)}(c:Cc X L mt)(o:e.Wf)(he:EOk e X.ep X.nx)(O:1<=X.S.free):∃T mt' x,X.S.place e X.ep X.nx=(T,x,0)/\Cc { X with S:=T,nx:=X.nx+1 } L mt'/\Pt X { X with S:=T,nx:=X.nx+1 } mt mt' e x:=by
 obtain⟨T,u⟩:=Bd7 c.c O;obtain⟨mt',c1,f1,a,P,l1,m1⟩:=c.opened u;obtain⟨c2,f2,rc⟩:=c1.Ti a o he;obtain⟨C,E,n3,n4,n5,n6,n7⟩:=c1.c.ne a;have pl:=Bb7 c.c he;rw[u]at pl;have s:=c1.c.sm;have G:=c1.opm a.1;refine⟨_,mt',_,pl,c2,rfl,⟨rfl,rfl,rfl,rfl⟩,P,?_,fun z H=>?_,m1,fun Q=>⟨rfl,?_,rc Q,G.1,G.2,.inl ⟨rfl,rfl⟩⟩,rfl,rfl,rfl,⟨Yf s C,Yf s E⟩,rfl,rfl⟩
 ·show X.S.free-1<=(T.Ti e X.ep X.nx).free
  have:(T.Ti e X.ep X.nx).free=T.free-1:=f2;omega
 ·have:=l1 z (E0.1 H).1 H
  exact this
 ·have U:=EOk.seq he
  have V:=c.nm.2.2;have hs:=vO (l:=e.bytes) o.u8;have J:=a.2;show meB T.g _=true;unfold meB;simp only[aS,aV];refine⟨TN c1.c.rt C n4 J,TN c1.c.rt E n4 J,n3,V,U.2.1,by omega,by omega⟩
section
variable (A:Bv disp)(hK:10000<K){L:List (List Nat)}
include A hK
theorem TO(hd:22<=d)(w:e.Wf)(C:C0 h B X F)(c:Cc X L mt)(he:EOk e X.ep X.nx)(hf:1<=X.S.free)(hx:X.nx<=281474976710655):Ok (Ag TT disp K d false 78 [.ptr B.c 0,.agg e.cells] h) fun v h'=>∃x Y mt',v=.tuple [.agg x.cells,I 0]/\Ee h h' B X F Y/\Cc Y L mt'/\Pt X Y mt mt' e x:=by
 obtain⟨dd,rfl⟩:∃k,d=k+1:=⟨d-1,by omega⟩;rw[HO A];simp only[xz,Aa];rw[show(h.new (.cells e.cells 131)).next=h.next+1 from rfl];have J:Ext h ((h.new (.cells e.cells 131)).new (.cells (Me.nil 0).cells 47)):=(Av.new _ _).Da _;have n1:((h.new (.cells e.cells 131)).new (.cells (Me.nil 0).cells 47)).next=h.next+2:=rfl
 have O:((h.new (.cells e.cells 131)).new (.cells (Me.nil 0).cells 47)).get h.next=some (.cells e.cells 131):=by rw[Ay _ (aO _)];exact Ad _ _
 have g4:((h.new (.cells e.cells 131)).new (.cells (Me.nil 0).cells 47)).get (h.next+1)=some (.cells (Me.nil 0).cells 47):=Ad _ _;rw[show[EV.int .i64 0,.int .i64 0,.int .i64 0,.int .i64 0,.int .i64 0,.int .i64 0]=(Me.nil 0).cells from rfl];generalize (h.new (.cells e.cells 131)).new (.cells (Me.nil 0).cells 47)=H at J n1 O g4⊢;have a:=C.ext J;have f4:Bk F h H (h.next+1):=.inr ⟨by omega,by omega⟩;rw[a.DI,c.un];simp only[Aa];have lc:=a.hb _ _ a.core;have l3:=a.hb _ _ O;have el:=En.Bc w;simp only[Tl,Aa];rw[Hb lc,a.ic];simp only[Aa,As];rw[Hb l3,Cn O rfl (Aj el)];simp only[Aa,As];rw[Hb lc,a.wZ];simp only[Aa,As];rw[Hb lc,a.kC];simp only[Aa,As];have C':=a.lift;obtain⟨T,mt',x,hp,cc,pt⟩:=TM c w he hf;have pl:=TQ A hK (d:=dd) (by omega) C'.M C'.hb w X.ep X.nx;rw[hp]at pl;refine Ok.bC (S:=fun j=>¬B.fr (Bk F h H) j) pl (fun _ _ p=>p.2.2.1) ?_;rintro _ aq h2 s' ⟨rfl,M',_,P⟩ sm ch Q;have mk:=CT X.S e X.ep X.nx;rw[hp]at mk;have c2:=a.H2 (M'.same sm) ch (sm.hb P) mk;have U:=c2.k.at a.hb g4 f4;simp only[Aa];rw[G1 (by rcases Q with rfl|⟨w,rfl,_⟩<;>kernel_rfl)];refine Ok.mk rfl rfl fun E x3 e3 _=>?_
 have c3:=c2.trans (c2.C.Y8 x3);have V:=x3.at c2.hb U;have aa:B.c≠h2.next:=by have:=c2.hb _ _ c2.C.core;omega
 have ab:B.c≠h.next+1:=fun y=>a.out _ f4 (.inl y.symm)
 simp only[I,Ac,aC,Aa];rw[c3.C.kC];simp only[I,Ac];rw[Cl (by show _<=X.nx+1;have:=c.nm.2.2;omega) (by show X.nx+1<=_;omega)];refine Ok.gT c3.C.core rfl rfl (by show 5<7;decide) ?_;have c4:=c3.trans (c3.C.wY X.gen X.ep (X.nx+1) X.st);have G:(E.put B.c (.cells (({ X with S:=T,nx:=X.nx+1 }:Co).cells B) 109)).get h2.next=some (.cells x.cells 47):=by rw[Af _ aa];exact e3
 have u:(E.put B.c (.cells (({ X with S:=T,nx:=X.nx+1 }:Co).cells B) 109)).get (h.next+1)=some (.cells (Me.nil 0).cells 47):=by rw[Af _ ab];exact V
 have o:Ee H (E.put B.c (.cells (({ X with S:=T,nx:=X.nx+1 }:Co).cells B) 109)) B X (Bk F h H) { X with S:=T,nx:=X.nx+1 }:=c4;show Ok (O5 _ _ _ _ _ _ (E.put B.c (.cells (({ X with S:=T,nx:=X.nx+1 }:Co).cells B) 109))) _;generalize E.put B.c (.cells (({ X with S:=T,nx:=X.nx+1 }:Co).cells B) 109)=h4 at o G u⊢;have l4:=o.hb _ _ u;simp only[O5,dr];rw[Cn G rfl (Aj (n:=6) rfl)];refine Ok.mS u rfl rfl ?_;rw[Ej (Ae _ _ _) kQ.1 kQ.2 rfl];exact .ret ⟨x,_,mt',rfl,Ee.xh J o ((Av.refl (S:=fun i=>i=h.next+1) h4).Ar (.inl rfl) l4 _) (fun i hi=>by subst hi;omega) (o.hb.put l4 _),cc,pt⟩
end
end
section
noncomputable def Mi.Es(S:Mi):Mi:={ S with dr:={ S.dr with dv:=S.dr.dv.tick } }
theorem Dq.Es(c:Calm S):Dq S S.Es fun _=>False:=⟨rfl,rfl,rfl,⟨rfl,rfl,rfl⟩,c.ev,c.up,rfl,rfl,rfl,rfl,fun _ _=>⟨rfl,rfl⟩,fun _ y=>y.elim⟩
section
variable{L:List (List Nat)}
theorem Cc.q0(C:Cc X L mt)(q:Dq X.S T fun _=>False):Cc { X with S:=T } L mt:=C.dq q (fun _ _ y=>y.elim) (fun _ _ _=>⟨fun y=>y,fun y=>y⟩) fun _ _ y=>y
theorem Cc.copy(C:Cc X L mt){x:Me}{bs:List Nat}(l:Mr X mt x bs):X.S.Ds x x.Al x.Bf=(X.S.Es,bs,true,0)/\X.S.Ds x x.Bf x.Al=(X.S.Es,bs,true,0):=by
 obtain⟨e,a,o,G,u,es,H,J⟩:=l.rc.ex;obtain⟨O,h2,hd,hq,_⟩:=zc l.ok;obtain⟨d1,o0,o1⟩:=vK O;obtain⟨d2,_,_⟩:=vK h2;obtain⟨z0,P,Q,z1⟩:=Tj C.c d1;obtain⟨E,U,V,m1⟩:=Tj C.c d2;have sm:=C.c.sm;have s1:=sm.s1;have gT:=(C.s2 _ P).1;have aa:=(C.s2 _ U).1;have c1:=TR (x:=x) C.c.ev C.c.up a (u.at (z:=x.Al) (mt:=x.Bf) (off:=x.off) z0 (by omega) E (by omega) o0 (by omega)) rfl Q (by omega) o0 H;have c2:=TR (x:=x) C.c.ev C.c.up a (u.at (z:=x.Bf) (mt:=x.Al) (off:=x.off) E (by omega) z0 (by omega) o0 (by omega)) rfl V (by omega) o0 J;have hc:¬e.kind=2/\x.seq=x.seq/\((Fl e.bytes:Nat):Int)=x.sum:=⟨G,rfl,by rw[o];exact es.symm⟩;rw[aI hc]at c1 c2;rw[c1,c2,<-o];exact⟨rfl,rfl⟩
theorem Mr.TS {x:Me}{bs:List Nat}(l:Mr X mt x bs):nZ X.S.g x=true:=by
 unfold nZ;rw[aM l.st,l.ok];rfl
theorem Cc.read(C:Cc X L mt){x:Me}{bs:List Nat}(l:Mr X mt x bs):X.S.read x=(X.S.Es,bs,0):=by
 unfold Mi.read;rw[aG (by rw[l.TS];decide),(C.copy l).1,aI (.inl rfl)]
theorem Cc.check(C:Cc X L mt){x:Me}{bs:List Nat}(l:Mr X mt x bs):X.S.check x=(X.S.Es.Es,bs,2,0):=by
 have a:=C.q0 (Dq.Es C.c);have u:Mr { X with S:=X.S.Es } mt x bs:=by
  refine⟨l.st,l.ok,l.rc.dq (Dq.Es C.c) (fun y=>y) fun y=>y,l.m1,l.m2,?_⟩;rw[Na (Dq.Es C.c),Na (Dq.Es C.c)];exact l.wh
 have o:=(a.copy u).2;unfold Mi.check;rw[aG (by rw[l.TS];decide),(C.copy l).1];simp only[aB,ak];rw[show(({ X with S:=X.S.Es }:Co).S.Ds x x.Bf x.Al)=X.S.Es.Ds x x.Bf x.Al from rfl]at o;rw[o];unfold Mi.rA;have b1:X.S.Es.E6 x.Al=false:=a.E6 _;have b2:X.S.Es.Es.E6 x.Bf=false:=(a.q0 (Dq.Es a.c)).E6 _;simp only[aB,ak,b1,bJ,and_self,fQ];rw[show(({ X with S:=X.S.Es }:Co).S.Es)=X.S.Es.Es from rfl,b2];rfl
end
structure js(X Y:Co)(D:Nat->Prop)(k:Nat):Prop where
 len:Y.es.length=X.es.length
 Gw:∀(b:Nat) x,¬D b->X.es[b]? = some x->Y.es[b]? = some x
 mvd:∀(b:Nat) x,D b->X.es[b]? = some x->∃y,Y.es[b]? = some y/\y.state=1/\X.closed y.Al=false/\X.closed y.Bf=false/\y.sum=x.sum/\X.nx<=y.seq
 nm:Y.gen=X.gen/\Y.ep=X.ep/\Y.nx=X.nx+k/\Y.st=X.st
 g:Y.S.g=X.S.g
 free:X.S.free-k<=Y.S.free
 cl:∀z,X.closed z=true->Y.closed z=true
theorem js.refl(X:Co):js X X (fun _=>False) 0:=⟨rfl,fun _ _ _ h=>h,fun _ _ y=>y.elim,⟨rfl,rfl,by simp,rfl⟩,rfl,by simp,fun _ h=>h⟩
theorem js.trans{D E:Nat->Prop}{l:Nat}(a:js X Y D k)(b:js Y Z E l):js X Z (fun i=>D i\/E i) (k+l):=by
 have u:∀z,Y.closed z=false->X.closed z=false:=fun z h=>by
  cases o:X.closed z with
  | false=>rfl
  | true=>rw[a.cl z o]at h;exact h
 refine⟨b.len.trans a.len,fun i x C o=>b.Gw i x (fun y=>C (.inr y)) (a.Gw i x (fun y=>C (.inl y)) o),fun i x C o=>?_,⟨b.nm.1.trans a.nm.1,b.nm.2.1.trans a.nm.2.1,by have:=a.nm.2.2.1;have:=b.nm.2.2.1;omega,b.nm.2.2.2.trans a.nm.2.2.2⟩,b.g.trans a.g,by have:=a.free;have:=b.free;omega,fun z h=>b.cl z (a.cl z h)⟩;have V:=a.nm.2.2.1;rcases fU (D i)with d|d
 ·obtain⟨y,Q,h2,h3,h4,U,h6⟩:=a.mvd i x d o
  rcases fU (E i)with e|e
  ·obtain⟨w,G,H,J,O,P,g6⟩:=b.mvd i y e Q
   exact⟨w,G,H,u _ J,u _ O,P.trans U,by omega⟩
  ·exact⟨y,b.Gw i y e Q,h2,h3,h4,U,h6⟩
 ·have e:=C.resolve_left d
  obtain⟨w,G,H,J,O,P,g6⟩:=b.mvd i x e (a.Gw i x d o);exact⟨w,G,H,u _ J,u _ O,P,by omega⟩
theorem Bmu {n j:Int}(C:bl.length=32)(h0:1<=n)(a:n<=281474976710655)(o:0<=j)(u:j<=255):EOk ⟨3,n,1,j,0,0,bl⟩ 1 n:=by
 unfold EOk Ex;rw[aI];refine⟨?_,?_,cO _,by show n-1<n;omega⟩
 ·unfold iR pB
  simp only[aS,Ez];refine⟨⟨by omega,a⟩,⟨o,u⟩,⟨by decide,by decide⟩,?_⟩;rfl
 ·unfold hY
  simp only[aS,Ez];exact⟨⟨by decide,by decide⟩,⟨by decide,by decide⟩,⟨by decide,by decide⟩,⟨by decide,by decide⟩,by omega,a⟩
end
section
theorem Cc.at{L:List (List Nat)}(c:Cc X L mt){x:Me}(o:X.es[j]? = some x)(u:x.state=1):∃bs,L[j]? = some bs/\Mr X mt x bs:=by
 have a:j<L.length:=by rw[c.len];exact(aY.1 o).1
 refine⟨_,aD a,?_⟩;rcases c.A0t j x _ o (aD a)with w|w
 ·rw[w.1]at u;cases u
 ·exact w
theorem zf {es:List Me}{x:Me}(a:es[j]? = some x):Xj es (j:Int)=(x,0):=by
 have hj:=(aY.1 a).1;unfold Xj;rw[aI ⟨by omega,by omega⟩,bF,a];rfl
theorem Mr.meR{x:Me}{bs:List Nat}(l:Mr X mt x bs):meR X.S.g x=true:=by
 unfold Go.Ev.meR;rw[aG (by have:=l.st;omega),aI l.st,l.ok]
section
variable (A:Bv disp)(hK:10000<K){L:List (List Nat)}
include A hK
theorem Bgg(C:C0 h B X F)(c:Cc X L mt){x:Me}(hx:X.es[j]? = some x)(h1:x.state=1)(hf:1<=X.S.free)(hn:X.nx<=281474976710655)(hd:22<=d){v5:Nat}(g5:h.get v5=some (.cells x.cells 47)):
 Ok (Xe (Ag TT disp K d false) (Ag TT disp K d true) K (.ptr B.c 0) (I j) (.ptr v5 0) h) fun v h'=>v=I 0/\∃Y mt',Ee h h' B X F Y/\Cc Y L mt'/\js X Y (fun i=>i=j) 1/\∃y,Y.es=X.es.set j y/\y.seq=X.nx:=by
 obtain⟨bs,hL,lv⟩:=c.at hx h1;have hj:=(aY.1 hx).1;have jb:j<=255:=by have:=c.lb;have:=c.c.sm.b1;omega
 have lc:=C.hb _ _ C.core;have l5:=C.hb _ _ g5;have r:=rG C.sm lv.meR;simp only[Xe,Aa];rw[Hb lc,C.ic];simp only[Aa,As];rw[Hb l5,Cn g5 rfl (Aj (n:=6) rfl)];simp only[Aa,As];have rd:=Bn0 A hK (d:=d) (by omega) C.lift.M C.lift.hb r.1 r.2;have rk:=ZO X.S x;rw[c.read lv]at rd rk;refine Ok.bC (S:=fun j=>¬B.fr F j) rd (fun _ _ p=>p.2.2.2.1) ?_;rintro _ bb h2 s' ⟨rfl,H,M',_,ad⟩ sm ch ae;have c2:=C.H2 (M'.same sm) ch (sm.hb ad) rk;have E:=c.q0 (Dq.Es c.c);have J:js X { X with S:=X.S.Es } (fun _=>False) 0:=⟨rfl,fun _ _ _ h=>h,fun _ _ y=>y.elim,⟨rfl,rfl,by simp,rfl⟩,rfl,by show X.S.free-0<=X.S.free;omega,fun z O=>by rw[Na (Dq.Es c.c)];exact O⟩;have e2:({ X with S:=X.S.Es }:Co).es=X.es/\({ X with S:=X.S.Es }:Co).nx=X.nx/\({ X with S:=X.S.Es }:Co).ep=X.ep/\({ X with S:=X.S.Es }:Co).S.free=X.S.free:=⟨rfl,rfl,rfl,rfl⟩;simp only at c2 E H;generalize ({ X with S:=X.S.Es }:Co)=Y at c2 E J e2;obtain⟨eY,P,pY,fY⟩:=e2;have ul:(Bj bs).length=32:=by rw[Bg,H.1]
 simp only[Aa];rw[G1 (by rcases ae with rfl|⟨w,rfl,_⟩<;>kernel_rfl)];refine Ok.mk (by simp) ul fun h3 x3 g7 _=>?_
 have c3:=c2.trans (c2.C.Y8 x3);simp only[I,Ac,aC,Aa,MY];have af:=c3.hb _ _ c3.C.core;have l7:=c3.hb _ _ g7;rw[Hb af,c3.C.kC];simp only[Aa,As];rw[Hb l7,Cn g7 rfl (Aj ul)];simp only[Aa,As];have fe:=EL 3 Y.nx 1 (j:Int) H.1;rw[<-En.H6]at fe;rw[show(EV.int .i64 3)=I 3 from rfl,show(EV.int .i64 1)=I 1 from rfl,show(EV.int .i64 (j:Int))=I j from rfl,Ax fe];have Q:=c.nm;have pc:=TO A hK (d:=d) (by omega) (⟨H.1,H.2⟩:(⟨3,Y.nx,1,(j:Int),0,0,bs⟩:En).Wf) c3.C.lift E (by rw[pY,P,Q.2.1];exact Bmu H.1 Q.2.2 hn (by omega) (by omega)) (by rw[fY];exact hf) (by rw[P];exact hn);refine Ok.bC (S:=fun j=>¬F j) pc (fun _ _ p=>by obtain⟨_,_,_,_,p,_⟩:=p;exact p.k) ?_;rintro _ bu h4 s2 ⟨o,Z,mt',rfl,p,cz,a⟩ ag ah ai;have c4:Ee h3 h4 B Y F Z:=⟨p.C.same ag,ah,p.ck⟩;have c4:=c3.trans c4;simp only[Aa,I];rw[G1 (by rcases ai with rfl|⟨w,rfl,_⟩<;>kernel_rfl)];refine Ok.mk rfl rfl fun h5 x5 g9 _=>?_
 have G:=c4.trans (c4.C.Y8 x5);simp only[Ac,aB,aA,Aa,MX];have aj:=G.hb _ _ G.C.core;have l9:=G.hb _ _ g9;rw[Hb aj,G.C.ji];simp only[Aa,As];rw[Hb l9,Cn g9 rfl (Aj (n:=6) rfl)];simp only[Aa,As];have ll:=a.lv (by show ¬(3:Int)=2;decide);have CL:=G.C.lift;have ms:=tB (K:=K) CL.sm CL.map CL.hb (x:=o) (fun _=>a.rg) (j:Int);have U:j<Z.es.length:=by rw[a.es,eY];exact hj
 have sf:kA Z.S.g Z.es (j:Int) o=(Z.es.set j o,0):=by
  unfold kA;rw[aI ⟨by omega,by omega⟩,aI ll.meR,bF]
 rw[sf]at ms;refine Ok.bC (S:=fun i=>i=B.ml\/i=B.ll) ms (fun _ _ p=>p.2.2.1) ?_;rintro _ b7 h6 s3 ⟨rfl,m6,_,ao⟩ u aq _;have c6:=G.trans (G.C.wX (m6.frame (u.get _) (u.get _) (u.get _)) aq (u.hb ao));have cs:=cz.set U (x:=o) (bs:=bs) (.inr ll) (by rw[a.sq,a.nm.2.2.1];omega);have Ls:L.set j bs=L:=by
  apply eA;intro i;rw[dR];split
  ·rename_i e;subst e
   rw[hL];split
   ·rfl
   ·rename_i hh;exact absurd (by rw[c.len];exact hj) hh
  ·rfl
 rw[Ls]at cs;have eZ:Z.es=X.es:=a.es.trans eY;refine .ret ⟨rfl,_,mt',c6,cs,?_,o,by show Z.es.set j o=_;rw[eZ],a.sq.trans P⟩;have nc:∀z,Z.closed z=false->X.closed z=false:=fun z O=>by
  cases V:X.closed z with
  | false=>rfl
  | true=>rw[a.cl z (J.cl z V)]at O;exact O
 have op:Z.closed o.Al=false/\Z.closed o.Bf=false:=by
  obtain⟨w1,w2⟩:=a.op;constructor
  ·cases V:Z.closed o.Al with
   | false=>rfl
   | true=>exact absurd w1 (E0.1 V).2.1
  ·cases V:Z.closed o.Bf with
   | false=>rfl
   | true=>exact absurd w2 (E0.1 V).2.2.1
 refine⟨by show(Z.es.set j o).length=_;rw[bP,eZ],fun i y hi hy=>?_,fun i y hi hy=>?_,⟨a.nm.1.trans J.nm.1,a.nm.2.1.trans pY,by show Z.nx=_;rw[a.nm.2.2.1,P];rfl,a.nm.2.2.2.trans J.nm.2.2.2⟩,a.g.trans J.g,?_,fun z O=>a.cl z (J.cl z O)⟩
 ·show(Z.es.set j o)[i]? = some y
  rw[dR,aG (fun e=>hi e.symm),eZ];exact hy
 ·subst hi
  rw[hx]at hy;cases hy;refine⟨o,?_,a.st,nc _ op.1,nc _ op.2,?_,by rw[a.sq,P];exact cO _⟩
  ·show(Z.es.set i o)[i]? = some o
   rw[dR,aI rfl,aI U]
  ·obtain⟨e,_,eb,_,_,es,_⟩:=lv.rc.ex
   rw[es];exact a.sm
 ·show X.S.free-(1:Nat)<=Z.S.free
  have:=a.free;rw[fY]at this;exact this
end
end
section
def Sq(X:Co):Prop:=∀(b o:Nat) (x a:Me),X.es[b]? = some x->X.es[o]? = some a->x.state=1->a.state=1->x.seq=a.seq->b=o
theorem Sq.es(s:Sq X)(h:Y.es=X.es):Sq Y:=by unfold Sq;rw[h];exact s
theorem Sq.set(s:Sq X)(hs:∀x∈X.es,x.seq<X.nx){y:Me}(h:Y.es=X.es.set j y)(C:y.state=1->X.nx<=y.seq):Sq Y:=by
 intro b H x E o a G u e;rw[h,dR]at o a;split at o
 ·rename_i e1
  split at a
  ·rename_i e2;rw[<-e1,<-e2]
  ·split at o
   ·cases o
    have:=hs E (bc a);have:=C G;omega
   ·cases o
 ·split at a
  ·split at a
   ·cases a
    have:=hs x (bc o);have:=C u;omega
   ·cases a
  ·exact s b H x E o a G u e
section
variable{L:List (List Nat)}
theorem qH {z:Int}{x:Me}:inB z x=true↔x.state=1/\(x.Al=z\/x.Bf=z):=by
 unfold inB;simp only[aS,dZ,aV]
theorem td {z:Int}{es:List Me}:b∈ik z es es.length↔∃x,es[b]? = some x/\inB z x=true:=by
 unfold ik;rw[eJ,dL];constructor
 ·rintro⟨h,a⟩
  rw[aD h]at a⊢;exact⟨_,rfl,a⟩
 ·rintro⟨x,o,a⟩
  refine⟨(aY.1 o).1,?_⟩;rw[o];exact a
theorem Bl6(z:Int)(es:List Me)(n:Nat):(ik z es n).Nodup:=List.Pairwise.filter _ List.nodup_range
theorem Bpx(z:Int)(es:List Me):((ik z es es.length).length:Int)=Js es z:=by
 have key:∀(l:List Me) (k:Nat),(∀i,i<l.length->es[k+i]? = l[i]?)->(((List.range' k l.length).filter fun i=>inB z ((es[i]?).getD (Me.nil 0))).length:Int)=Js l z:=fun l=>by
  induction l with
  | nil=>intro k _;rfl
  | cons x l o=>
   intro k h;have h0:=h 0 (by simp);rw[dS,bK]at h0;have a:=o (k+1) fun i a=>by
    have:=h (i+1) (by rw[bG];omega);rw[br]at this;rw[<-this];congr 1;omega
   rw[bG,gF,eh,h0,Pv,<-a];simp only[Option.getD_some];unfold Vj;split
   ·rename_i hb
    rw[aI (qH.1 hb),bG];omega
   ·rename_i hb
    rw[aG fun y=>hb (qH.2 y)];omega
 have:=key es 0 fun i _=>by rw[bM]
 unfold ik;rw[List.range_eq_range'];exact this
theorem TU {z:Int}:∀{es:List Me},(∀x∈es,x.state=1->¬x.Al=z/\¬x.Bf=z)->Js es z=0
 | [],_=>rfl
 | x::es,h=>by
  rw[Pv,TU fun y a=>h y (aU _ a)];unfold Vj;rw[aG]
  ·rfl
  ·rintro⟨o,h2⟩
   have:=h x (aW ..) o;exact h2.elim this.1 this.2
end
end
section
theorem js.TV{D E:Nat->Prop}(a:js X Y D k)(h:∀b,D b↔E b):js X Y E k:=by
 have:D=E:=funext fun b=>propext (h b)
 subst this;exact a
section
variable (A:Bv disp)(hK:10000<K){L:List (List Nat)}
include A hK
theorem Brp(C:C0 h B X F)(c:Cc X L mt){x:Me}(a:X.es[j]? = some x)(o:x.state=1)(u:1<=X.S.free)(E:X.nx<=281474976710655)(hd:23<=d):
 Ok (Ag TT disp K d false 74 [.ptr B.c 0,I j] h) fun v h'=>v=I 0/\∃Y mt',Ee h h' B X F Y/\Cc Y L mt'/\js X Y (fun i=>i=j) 1/\∃y,Y.es=X.es.set j y/\y.seq=X.nx:=by
 obtain⟨e,rfl⟩:∃k,d=k+1:=⟨d-1,by omega⟩;rw[Aur A (by omega)];simp only[MZ,Aa];rw[C.ji];refine Ok.Am (pK (K:=K) C.sm C.map C.hb j) ?_;rintro _ h2 ⟨rfl,G⟩;have c2:=C.Y8 G;rw[zf a];simp only[Aa];refine Ok.mk rfl rfl fun O H e3 _=>?_
 have c3:=c2.trans (c2.C.Y8 H);rw[Ai e3 rfl (v:=I x.state) rfl];simp only[I,Ac];simp only[o,aB,aA,Aa];refine(Bgg A hK c3.C c a o u E (d:=e) (by omega) e3).mono ?_;rintro v h4 ⟨rfl,Y,mt',c4,J,m,y⟩;exact⟨rfl,Y,mt',c3.trans c4,J,m,y⟩
omit A hK in
theorem js.sq(c:Cc X L mt)(s:Sq X)(m:∃y,Y.es=X.es.set j y/\y.seq=X.nx):Sq Y:=by
 obtain⟨y,e,q⟩:=m;exact s.set c.sq e fun _=>by omega
end
structure te(X Y:Co)(z:Int)(n:Nat):Prop where
 len:Y.es.length=X.es.length
 Gw:∀(b:Nat) x,inB z x=false->X.es[b]? = some x->Y.es[b]? = some x
 mvd:∀(b:Nat) x,inB z x=true->X.es[b]? = some x->∃y,Y.es[b]? = some y/\y.state=1/\y.sum=x.sum/\¬y.Al=z/\¬y.Bf=z
 nm:Y.gen=X.gen+1/\Y.ep=X.ep/\Y.nx=X.nx+n/\Y.st=X.st
 g:Y.S.g=X.S.g
 free:X.S.free-n<=Y.S.free/\(0<n->X.S.free-n+X.S.g.S<=Y.S.free)
 fr:z∈Y.S.ps (Bp X.S.g z).toNat
 cl:Y.closed z=false
 dd:∀z,Y.dead z=false
theorem zg {z:Int}{x:Me}(h:inB z x=false)(a:x.state=1):¬x.Al=z/\¬x.Bf=z:=by
 constructor<;>intro e
 ·rw[qH.2 ⟨a,.inl e⟩]at h;cases h
 ·rw[qH.2 ⟨a,.inr e⟩]at h;cases h
section
variable{L:List (List Nat)}
theorem Cc.Bov(c:Cc X L mt)(cy:Cc Y L mt'){z:Int}(U:X.closed z=true)(hn:n=(ik z X.es X.es.length).length)(m:js X Y (fun i=>i∈ik z X.es X.es.length) n)(k:kO Y Z):te X Z z n:=by
 have lv:∀w:Int,X.closed w=true->(∀x∈X.es,x.state=1->inB z x=false->¬x.Al=w/\¬x.Bf=w)->Y.dead w=true:=fun w hw u=>by
  refine W6.2 ⟨m.cl w hw,?_⟩;have:Js Y.es w=0:=TU fun y J G=>by
   obtain⟨b,hb⟩:=cj.1 J;have hl:b<X.es.length:=by rw[<-m.len];exact(aY.1 hb).1
   have C:=aD hl;rcases fU (b∈ik z X.es X.es.length)with d|d
   ·obtain⟨y',a,_,Q,h4,_⟩:=m.mvd b _ d C
    rw[hb]at a;cases a;exact⟨fun e=>by (rw[e,hw]at Q;cases Q),fun e=>by (rw[e,hw]at h4;cases h4)⟩
   ·have kx:=m.Gw b _ d C
    rw[hb]at kx;cases kx;refine u _ (bc C) G ?_;cases E:inB z X.es[b]with
    | false=>rfl
    | true=>exact absurd (td.2 ⟨_,C,E⟩) d
  unfold Ze;rw[this,ite_self]
 have dz:Y.dead z=true:=lv z U fun x _ G E=>zg E G
 have nz:∀w,X.closed w=false->¬w=z:=fun w hw e=>by rw[e,U]at hw;cases hw
 refine⟨by rw[k.es];exact m.len,fun b x E u=>?_,fun b x E u=>?_,⟨?_,?_,?_,?_⟩,k.g.trans m.g,?_,?_,?_,k.dead⟩
 ·rw[k.es]
  refine m.Gw b x (fun hb=>?_) u;obtain⟨x',O,o⟩:=td.1 hb;rw[u]at O;cases O;rw[E]at o;cases o
 ·obtain⟨y,G,h2,Q,h4,h5,_⟩:=m.mvd b x (td.2 ⟨x,u,E⟩) u
  exact⟨y,by rw[k.es];exact G,h2,h5,nz _ Q,nz _ h4⟩
 ·rw[k.nm.1,m.nm.1]
 ·rw[k.nm.2.1,m.nm.2.1]
 ·rw[k.nm.2.2.1,m.nm.2.2.1]
 ·rw[k.nm.2.2.2,m.nm.2.2.2]
 ·obtain⟨f1,f2⟩:=k.free cy
  have mf:=m.free;refine⟨by omega,fun hp=>?_⟩;rw[hn]at hp;obtain⟨b,hb⟩:=List.exists_mem_of_length_pos hp;obtain⟨x,u,E⟩:=td.1 hb;obtain⟨G,P⟩:=qH.1 E;obtain⟨bs,_,l⟩:=c.at u G;obtain⟨_,_,hd,_⟩:=zc l.ok;obtain⟨_,za,zb,_⟩:=E0.1 U;have wh:X.closed x.Al=true/\X.closed x.Bf=true:=by
   rcases l.wh with⟨w1,w2⟩|w
   ·rcases P with e|e
    ·exact absurd (e▸w1) za
    ·exact absurd (e▸w2) zb
   ·exact w
  have both:Y.dead x.Al=true/\Y.dead x.Bf=true:=by
   rcases P with e|e
   ·refine⟨by rw[e];exact dz,lv _ wh.2 fun y J a o=>?_⟩
    obtain⟨b',H⟩:=cj.1 J;obtain⟨V,_,l'⟩:=c.at H a;have no:=zg o a;refine⟨fun e'=>no.2 ?_,fun e'=>no.1 ?_⟩
    ·rw[<-l'.m1,e',l.m2];exact e
    ·rw[<-l'.m2,e',l.m2];exact e
   ·refine⟨lv _ wh.1 fun y J a o=>?_,by rw[e];exact dz⟩
    obtain⟨b',H⟩:=cj.1 J;obtain⟨V,_,l'⟩:=c.at H a;have no:=zg o a;refine⟨fun e'=>no.2 ?_,fun e'=>no.1 ?_⟩
    ·rw[<-l'.m1,e',l.m1];exact e
    ·rw[<-l'.m2,e',l.m1];exact e
  have:=f2 _ _ both.1 both.2 (by rw[m.g];exact hd);rw[m.g]at this;omega
 ·have:=k.fr z dz
  rw[m.g]at this;exact this
 ·rw[k.cl,dz,fF,dI]
end
section
variable (A:Bv disp)(hK:10000<K){L:List (List Nat)}
include A hK
theorem A58(c:Cc X L mt)(sq:Sq X){z:Int}(hz:X.closed z=true)(hd:23<=d){s:EV}{N:List Nat}(u:N=ik z X.es X.es.length)(hL:N.length<=256)(hf:(N.length:Int)<=X.S.free)(hg:X.gen<281474976710655)(hx:X.nx+N.length<=281474976710655)(fq:0<N.length->F q):∀(f i:Nat) (o:Ab) (Y:Co) (mt':Int->Int),N.length-i<f->i<=N.length->Ee h o B X F Y->Cc Y L mt'->Sq Y->js X Y (fun b=>b∈N.take i) i->Cd o s q 3 1 N.length (N.map nI) ->
 Ok (Mc (Ag TT disp K d false) (Ag TT disp K d true) K f (.ptr B.c 0) s (I N.length) (I i) o) fun v h'=>v=I 0/\∃Z mt',Ee h h' B X F Z/\Cc Z L mt'/\Sq Z/\te X Z z N.length:=by
 intro f;induction f with
 | zero=>intro i o Y mt' hf;omega
 | succ f ih=>
  intro i o Y mt' af hi c1 E V m row;rw[Mc];simp only[I,Ac];have mn:=m.nm;by_cases a:i<N.length
  ·have:decide ((i:Int)<(N.length:Int))=true:=by simp;omega
   simp only[this,Aa,GN];have ix:=row.ix a .i64;rw[ix,bk,Ai (row.block (by omega)) rfl (v:=I (N[i]:Int)) (by rw[bD,aD a];rfl)];have nd:N.Nodup:=by rw[u];exact Bl6 _ _ _
   have ni:N[i] ∉ N.take i:=by
    intro hm;obtain⟨k,hk,G⟩:=List.mem_take_iff_getElem.1 hm;exact(List.pairwise_iff_getElem.1 nd) k i (by omega) a (by omega) G
   have H:∀b,b∈N->b∈ik z X.es X.es.length:=fun b hb=>by rw[<-u];exact hb
   obtain⟨x,J,O⟩:=td.1 (H _ (bH a));have P:=m.Gw _ x ni J;have mf:=m.free;refine Ok.Am (Brp A hK c1.C E P (qH.1 O).1 (by omega) (by omega) hd) ?_;rintro _ h2 ⟨rfl,Z,Q,c2,U,m2,y2⟩;have bl:=hL;simp only[I,Ac,aB,aA,Aa,GM];rw[Cl,show((i:Nat):Int)+1=((i+1:Nat):Int) by omega];refine ih (i+1) h2 Z Q (by omega) (by omega) (c1.trans c2) U (js.sq E V y2) ((m.trans m2).TV fun b=>?_) (row.frame fun y=>c2.k.get _ (c1.hb _ _ (row.block y)) fun w=>w (fq y));rw[fV,aD a,bR];simp
  ·have:decide ((i:Int)<(N.length:Int))=false:=by simp;omega
   simp only[this,Aa,GL];have ei:i=N.length:=by omega
   subst ei;rw[bW]at m;refine Ok.Am (vN A hK c1.C E (by omega) (by omega) (d:=d)) ?_;rintro _ h2 ⟨rfl,Z,c2,U,k2⟩;refine .ret ⟨rfl,Z,mt',c1.trans c2,U,V.es k2.es,?_⟩;exact c.Bov E hz (by rw[u]) (by rw[u]at m⊢;exact m) k2
theorem Blw(C:C0 h B X F)(c:Cc X L mt)(sq:Sq X)(hd:24<=d){z:Int}(u:X.closed z=true)(P:Rng z)(E:((ik z X.es X.es.length).length:Int)<=X.S.free)(Q:X.gen<281474976710655)(G:X.nx+(ik z X.es X.es.length).length<=281474976710655):Ok (Ag TT disp K d false 27 [.ptr B.c 0,I z] h) fun v h'=>v=I 0/\∃Y mt',Ee h h' B X F Y/\Cc Y L mt'/\Sq Y/\te X Y z (ik z X.es X.es.length).length:=by
 obtain⟨e,rfl⟩:∃k,d=k+1:=⟨d-1,by omega⟩;rw[Arw A (by omega)];simp only[GP,Aa];refine Ok.Am (w8 A hK C (d:=e) (by omega) P) ?_;rintro _ h2 ⟨rfl,U⟩;have c2:=C.rd U;rw[u];simp only[Aa,GO];refine Ok.Am (Θ A hK c2.C (d:=e) (by omega) z) ?_;rintro v H ⟨J,q,row,lq⟩;have bl:=EB z X.es X.es.length;have el:=C.EF;have V:ik z X.es X.es.length=ik z X.es X.es.length:=rfl;revert V;generalize a:ik z X.es X.es.length=N at row lq bl E G⊢;intro _;rw[row.Hg];have C3:C0 H B X (fun i=>F i\/(0<N.length/\i=q)):=by
  obtain⟨⟨T,k,t⟩,_⟩:=J;refine(c2.C.kp k).less fun i o=>?_
  rcases o with o|⟨O,rfl⟩
  ·exact .inl o
  ·exact .inr ⟨lq O,(k.chg.hb c2.C.hb) _ _ (row.block O)⟩
 have:=A58 A hK (F:=fun i=>F i\/(0<N.length/\i=q)) c sq u (d:=e) (by omega) (s:=v) (q:=q) (N:=N) a.symm (by omega) E Q G (fun y=>.inr ⟨y,rfl⟩) K 0 H X mt (by omega) (by omega) (Ee.refl C3) c sq ((js.refl X).TV fun b=>by simp) row;refine Ok.mono this ?_;rintro _ h4 ⟨rfl,Y,mt',c4,cy,sy,k⟩;have c4:=c4.less (F:=F) fun i=>.inl
 exact⟨rfl,Y,mt',(c2.trans (c2.C.rd J)).trans c4,cy,sy,k⟩
end
end
section
theorem TW:X.Kw (n+1)=if X.jG n=true/\(X.Kw n = -1\/X.live n<X.live (X.Kw n))then(n:Int)else X.Kw n:=rfl
theorem TX:∀n:Nat,X.Kw n = -1->∀z:Nat,z<n->X.jG z=false
 | 0,_,z,a=>by omega
 | n+1,h,z,a=>by
  rw[TW]at h;split at h
  ·omega
  ·rename_i o
   rcases cb z n with y|y
   ·exact TX n h z y
   ·have:z=n:=by omega
    subst this;cases u:X.jG z with
    | false=>rfl
    | true=>exact absurd ⟨u,.inl h⟩ o
theorem TY:∀n:Nat,¬X.Kw n = -1->X.jG (X.Kw n)=true
 | 0,h=>absurd rfl h
 | n+1,h=>by
  rw[TW]at h⊢;split
  ·rename_i a;exact a.1
  ·rename_i a
   rw[aG a]at h;exact TY n h
theorem Bsk(a:rtB g=true):1<=g.segments/\g.E5+8<=g.D*g.Z:=by
 have s:=Ja a;have:=s.d0;have:=s.z0;have:=s.s0;have:=s.b0;have:=s.p0;have E:2*g.B<=g.S*g.segments:=by
  unfold rtB at a;simp only[aS,aV]at a;exact a.2.2
 have o:1<=g.segments:=by
  rcases gX 0 g.segments with y|y
  ·exact y
  ·have:=dX (show 0<=g.S by omega) (show 0<=-g.segments by omega)
   rw[Int.mul_neg]at this;omega
 refine⟨o,?_⟩;have u:0<=g.D*g.P:=dX (by omega) (by omega);have e1:g.D*(g.Z-g.P-2)=g.D*g.Z-g.D*g.P-2*g.D:=by rw[Int.mul_sub,Int.mul_sub];omega
 unfold Gm.segments at o;have C:g.least<=g.D*(g.Z-g.P-2)-2*g.E5+1:=by unfold Gm.least;omega
 unfold Gm.E5 at *;omega
section
variable{L:List (List Nat)}
theorem Cc.rng(C:Cc X L mt){z:Int}(o:X.closed z=true):0<=z/\z<X.S.g.D*X.S.g.Z:=by
 have:=(E0.1 o).1;rcases Ip C.c.sm z with y|⟨_,_,_,a,b⟩
 ·omega
 ·exact⟨a,b⟩
theorem Cc.Ze(C:Cc X L mt){z:Int}(a:X.closed z=true):Go.Ev.Ze X.S.g X.es z=Js X.es z:=by
 unfold Go.Ev.Ze;rw[aI (C.rng a)]
theorem Cc.whole(C:Cc X L mt)(z:Int):km X.S z X.es=true:=by
 unfold km;rw[dV];intro x _;have:mg X.S x=true:=by
  unfold mg;rw[C.E6,C.E6];rfl
 rw[this,Bool.or_true]
theorem Cc.full(C:Cc X L mt)(u:X.Kw (X.S.g.D*X.S.g.Z).toNat = -1){z:Int}(o:X.closed z=true):X.S.g.S<2*Js X.es z:=by
 obtain⟨a,b⟩:=C.rng o;have h:=TX _ u z.toNat (by omega);rw[show((z.toNat:Nat):Int)=z by omega]at h;unfold Co.jG Co.live at h;rw[o,C.whole,C.Ze o,Bool.and_true,bI,cr]at h;omega
theorem Cc.Br0(C:Cc X L mt)(a:¬X.Kw (X.S.g.D*X.S.g.Z).toNat = -1):X.closed (X.Kw (X.S.g.D*X.S.g.Z).toNat)=true/\2*Js X.es (X.Kw (X.S.g.D*X.S.g.Z).toNat)<=X.S.g.S:=by
 have h:=TY _ a;unfold Co.jG Co.live at h;simp only[aS,aV]at h;refine⟨h.1,?_⟩;rw[<-C.Ze h.1];exact h.2.1
theorem Cc.TZ(C:Cc X L mt)(G:∀z,X.closed z=true->X.S.g.S<2*Js X.es z):X.S.g.E5<=Ft X.S.ps X.S.g.D.toNat:=by
 rcases gX (Ft X.S.ps X.S.g.D.toNat) X.S.g.E5 with y|y
 ·have d0:=C.c.sm.d0
  refine(Bbh C.c.rt (closed:=X.closed) (es:=X.es) (ps:=X.S.ps) (ar:=[X.cur 0,X.Br 0,X.cur 1,X.Br 1,X.cur 2,X.Br 2]) (op:=[X.S.a,X.S.b]) (by simp) (by simp) (fun d hd=>?_) (fun z H=>?_) G C.lb y).elim
  ·have o:=C.ar 0 (by omega);have u:=C.ar 1 (by omega);have E:=C.ar 2 (by omega)
   simp only[eh,List.filter_nil,o.1,o.2.1,u.1,u.2.1,E.1,E.2.1];rcases cb d 3 with y|y
   ·rcases(by omega:d=0\/d=1\/d=2)with rfl|rfl|rfl<;>simp<;>omega
   ·have e:∀k:Nat,k<3->decide (¬((k:Int)=(d:Int)))=true:=fun k J=>by simp;omega
    have e0:=e 0 (by omega);have e1:=e 1 (by omega);have e2:=e 2 (by omega);rw[e0,e1,e2];simp;omega
  ·rcases C.cover H with y|y|⟨i,O,y⟩|y|y
   ·exact .inl y
   ·exact .inr (.inl y)
   ·refine .inr (.inr (.inl ?_))
    rcases(by omega:i=0\/i=1\/i=2)with rfl|rfl|rfl<;>rcases y with y|y<;>simp[y]
   ·exact .inr (.inr (.inr (by simp[y])))
   ·exact .inr (.inr (.inr (by simp[y])))
 ·exact y
theorem Cc.T'(C:Cc X L mt):X.S.g.S*Ft X.S.ps X.S.g.D.toNat<=X.S.free/\X.S.free<=X.S.g.S*Ft X.S.ps X.S.g.D.toNat+X.S.g.S:=by
 have:=C.c.sZ;unfold Mi.free;omega
end
end
section
def Co.jc(X:Co):Nat->Bool
 | 0=>false
 | n+1=>X.jc n||X.dead n
theorem T_:∀n:Nat,X.jc n=false->∀z:Nat,z<n->X.dead z=false
 | 0,_,z,a=>by omega
 | n+1,h,z,a=>by
  unfold Co.jc at h;rw[Bool.or_eq_false_iff]at h;rcases cb z n with y|y
  ·exact T_ n h.1 z y
  ·have:z=n:=by omega
   subst this;exact h.2
theorem UA:∀n z:Nat,z<n->X.dead z=true->X.jc n=true
 | 0,z,a,_=>by omega
 | n+1,z,a,h=>by
  unfold Co.jc;rw[dZ];rcases cb z n with y|y
  ·exact .inl (UA n z y h)
  ·have:z=n:=by omega
   subst this;exact .inr h
section
variable{L:List (List Nat)}
theorem A8q(A:Bv disp)(hK:10000<K)(P:X.S.g.D*X.S.g.Z=n)(hd:9<=d):∀(f i:Nat) (h:Ab),n-i<f->i<=n->X.jc i=false->C0 h B X F ->
 Ok (N6 (Ag TT disp K d false) (Ag TT disp K d true) K f (.ptr B.c 0) (I n) (I i) h) fun v h'=>v=.bool (X.jc n)/\Qt F h h':=by
 intro f;induction f with
 | zero=>intro i h H;omega
 | succ f J=>
  intro i h H Q G C;have bd:=C.sm.Ug;rw[N6];simp only[I,Ac];by_cases u:i<n
  ·have:decide ((i:Int)<(n:Int))=true:=by simp;omega
   simp only[this,Aa,G_];refine(DT A hK C hd (z:=i) ⟨by omega,by omega⟩).Am ?_;rintro _ h2 ⟨rfl,E⟩;cases o:X.dead i with
   | true=>
    simp only[Aa];exact .ret ⟨by rw[UA n i u o],E⟩
   | false=>
    simp only[Aa,G',Ac];rw[Cl,show((i:Nat):Int)+1=((i+1:Nat):Int) by omega];refine(J (i+1) h2 (by omega) (by omega) (by unfold Co.jc;rw[G,o];rfl) (C.rd E).C).mono ?_;rintro v U ⟨a,O⟩;exact⟨a,E.trans O⟩
  ·have:decide ((i:Int)<(n:Int))=false:=by simp;omega
   have e:i=n:=by omega
   subst e;simp only[this,Aa,GZ];exact .ret ⟨by rw[G],Qt.refl C.hb⟩
theorem Brq(A:Bv disp)(hK:10000<K)(C:C0 h B X F)(hd:10<=d):Ok (Ag TT disp K d false 81 [.ptr B.c 0] h) fun v h'=>v=.bool (X.jc (X.S.g.D*X.S.g.Z).toNat)/\Qt F h h':=by
 obtain⟨e,rfl⟩:∃k,d=k+1:=⟨d-1,by omega⟩;rw[Atv A (by omega)];simp only[HA,Aa];rw[C.ic];refine rE A C fun h2 o=>?_
 have bd:=C.sm.Ug;obtain⟨n,u⟩:=bA (show 0<=X.S.g.D*X.S.g.Z by omega);rw[u,bF];refine(A8q A hK u (d:=e) (by omega) K 0 h2 (by omega) (by omega) rfl (C.Y8 o).C).mono ?_;rintro v G ⟨a,E⟩;exact⟨a,(Qt.ext o C.hb).trans E⟩
structure Tdy(X Y:Co)(k:Nat):Prop where
 len:Y.es.length=X.es.length
 gen:X.gen<=Y.gen/\Y.gen<=X.gen+k
 nx:X.nx<=Y.nx/\Y.nx<=X.nx+64*k
 nm:Y.ep=X.ep/\Y.st=X.st
 g:Y.S.g=X.S.g
 free:X.S.free<=Y.S.free
theorem Tdy.refl(X:Co):Tdy X X 0:=⟨rfl,⟨cO _,by simp⟩,⟨cO _,by simp⟩,⟨rfl,rfl⟩,rfl,cO _⟩
theorem Tdy.trans{l:Nat}(a:Tdy X Y k)(b:Tdy Y Z l):Tdy X Z (k+l):=by
 have o:=a.gen;have b1:=b.gen;have u:=a.nx;have b2:=b.nx;have C:=a.free;have b3:=b.free;exact⟨b.len.trans a.len,by omega,by omega,⟨b.nm.1.trans a.nm.1,b.nm.2.trans a.nm.2⟩,b.g.trans a.g,by omega⟩
theorem Tdy.more{l:Nat}(a:Tdy X Y k)(h:k<=l):Tdy X Y l:=by
 have o:=a.gen;have u:=a.nx;exact⟨a.len,by omega,by omega,a.nm,a.g,a.free⟩
theorem kO.zh(k:kO X Y)(c:Cc X L mt):Tdy X Y 1:=by
 have:=k.nm;exact⟨by rw[k.es],by omega,by omega,⟨k.nm.2.1,k.nm.2.2.2⟩,k.g,(k.free c).1⟩
theorem te.zh{z:Int}(k:te X Y z n)(c:Cc X L mt)(a:(n:Int)<=X.S.g.S):Tdy X Y 1:=by
 have:=k.nm;have:=c.c.sm.s1;have:=c.c.sm.s0;have f:=k.free;refine⟨k.len,by omega,by omega,⟨k.nm.2.1,k.nm.2.2.2⟩,k.g,?_⟩;rcases dY n with y|y
 ·subst y;omega
 ·have:=f.2 y;omega
def zi(X:Co):Prop:=X.jc (X.S.g.D*X.S.g.Z).toNat=false/\X.Kw (X.S.g.D*X.S.g.Z).toNat = -1
theorem UB(h:∀z,X.dead z=false):∀n,X.jc n=false
 | 0=>rfl
 | n+1=>by unfold Co.jc;rw[UB h n,h];rfl
theorem Cc.jc(c:Cc X L mt)(h:X.jc (X.S.g.D*X.S.g.Z).toNat=false)(z:Int):X.dead z=false:=by
 cases hd:X.dead z with
 | false=>rfl
 | true=>
  obtain⟨a,b⟩:=c.rng (W6.1 hd).1;have:=T_ _ h z.toNat (by omega);rw[show((z.toNat:Nat):Int)=z by omega,hd]at this;exact this
variable (A:Bv disp)(hK:10000<K)
include A hK
theorem Br9(C:C0 h B X F)(c:Cc X L mt)(sq:Sq X)(U:X.S.g.S<=X.S.free)(u:X.gen<281474976710655)(V:X.nx+64<=281474976710655)(hd:25<=d):Ok (Ag TT disp K d false 34 [.ptr B.c 0] h) fun v h'=>∃(b:Bool) (Y:Co) (mt':Int->Int),v=.tuple [.bool b,I 0]/\Ee h h' B X F Y/\Cc Y L mt'/\Sq Y /\
 ((b=false/\Y=X/\zi X)\/(b=true/\¬zi X/\Tdy X Y 1/\(∀z,Y.dead z=false)/\(X.jc (X.S.g.D*X.S.g.Z).toNat=false->2*X.S.free+X.S.g.S<=2*Y.S.free))):=by
 obtain⟨e,rfl⟩:∃k,d=k+1:=⟨d-1,by omega⟩;rw[Atg A (by omega)];simp only[GS,Aa];refine Ok.Am (Brq A hK C (d:=e) (by omega)) ?_;rintro _ h2 ⟨rfl,H⟩;have c2:=C.rd H;unfold zi;cases J:X.jc (X.S.g.D*X.S.g.Z).toNat with
 | true=>
  simp only[Aa];refine Ok.Am (vN A hK c2.C c u (by omega) (d:=e)) ?_;rintro _ O ⟨rfl,Y,c3,a,k⟩;exact .ret ⟨true,Y,mt,rfl,c2.trans c3,a,sq.es k.es,.inr ⟨rfl,(fun y=>by cases y.1),k.zh c,k.dead,fun y=>by cases y⟩⟩
 | false=>
  simp only[Aa,GR];refine Ok.Am (Λ A hK c2.C (d:=e) (by omega)) ?_;rintro _ O ⟨rfl,P⟩;have c3:=c2.trans (c2.C.rd P);have E:=Ξ A hK C (d:=0);have G:=fun y=>c.Br0 y
  generalize X.Kw (X.S.g.D*X.S.g.Z).toNat=z at E G⊢;simp only[I,Ac];by_cases o:z = -1
  ·simp only[o,aC,Aa]
   exact .ret ⟨false,X,mt,rfl,c3,c,sq,.inl ⟨by trivial,by trivial,by trivial,by trivial⟩⟩
  ·obtain⟨v1,v2⟩:=G o
   have ln:=Bpx z X.es;have s0:=c.c.sm.s0;have s1:=c.c.sm.s1;have dz:=c.jc J z;simp only[o,aA,Aa,GQ];refine Ok.Am (Blw A hK c3.C c sq (d:=e) (by omega) v1 E (by omega) u (by omega)) ?_;rintro _ h4 ⟨rfl,Y,mt',c4,a,Q,k⟩;refine .ret ⟨true,Y,mt',rfl,c3.trans c4,a,Q,.inr ⟨rfl,(fun y=>y.2),k.zh c (by omega),k.dd,fun _=>?_⟩⟩;have np:0<(ik z X.es X.es.length).length:=by
    rcases dY (ik z X.es X.es.length).length with y|y
    ·have:X.dead z=true:=W6.2 ⟨v1,by rw[c.Ze v1];omega⟩
     rw[this]at dz;cases dz
    ·exact y
   have:=k.free.2 np;omega
end
end
section
noncomputable def Co.prs(X:Co):Int:=Ft X.S.ps X.S.g.D.toNat
section
variable (A:Bv disp)(hK:10000<K){L:List (List Nat)}
include hK in
theorem zj(C:C0 h B X F){k:EV->Ab->R}{Q:EV->Ab->Prop}(a:∀h',Ext h h'->Ok (k (.int .i64 X.prs) h') Q):Ok (Am (Cs K (.ptr B.m 0) h) fun v h=>Am (Im K v h) k) Q:=
 η hK C.M C.hb fun h' x=>a h' x
include A hK
omit A in
theorem Bhn {a:Ab}(c1:Ee h a B X F Y)(hp:¬Y.prs=0)(n:Int)(d:Nat):Ok (Oa (Ag TT disp K d false) (Ag TT disp K d true) K (.ptr B.c 0) (I n) a) fun v h'=>v=I 0/\Ee h h' B X F Y:=by
 simp only[Oa,Aa];rw[c1.C.ic];refine zj hK c1.C fun h2 o=>?_
 have c2:=c1.trans (c1.C.Y8 o);have u:Er (.tuple []) false=false/\Er (.tuple []) true=false:=⟨rfl,rfl⟩;simp only[I,Ac,hp,aA,Aa,KG,KF];exact .ret ⟨rfl,c2⟩
structure Rm(X Y:Co)(n:Int):Prop where
 t:Tdy X Y 1024
 same:n<=X.prs->Y=X
 res:n<=X.S.g.E5->n<=Y.prs
omit A hK in
theorem Cc.prs(c:Cc X L mt):X.S.g.S*X.prs<=X.S.free/\X.S.free<=X.S.g.S*X.prs+X.S.g.S:=c.T'
omit A hK in
theorem Cc.UC(c:Cc X L mt){k:Int}(h:X.S.g.S*k+X.S.g.S<X.S.free+1):k<=X.prs:=by
 have p:=c.prs.2;have s0:=c.c.sm.s0;rcases gX X.prs k with y|y
 ·have:X.S.g.S*(X.prs+1)<=X.S.g.S*k:=bT y (by omega)
  rw[Int.mul_add,Int.mul_one]at this;omega
 ·exact y
theorem A9p(c:Cc X L mt)(V:3*X.S.g.S<=X.S.free)(hg:X.gen+1024<=281474976710655)(hx:X.nx+65600<=281474976710655)(hd:25<=d){n:Int}{N:Nat}(hn:n<=X.S.g.D*X.S.g.Z)(hN:2*(X.S.g.D*X.S.g.Z)=N)(ad:N<=1024)(np:¬n<=X.prs):∀(f i:Nat) (u:Ab) (Y:Co) (mt':Int->Int),N-i<f->i<=N->Ee h u B X F Y->Cc Y L mt'->Sq Y->Tdy X Y i->(0<i->Y.jc (X.S.g.D*X.S.g.Z).toNat=false/\2*X.S.free+((i:Int)-1)*X.S.g.S<=2*Y.S.free) ->
 Ok (J9 (Ag TT disp K d false) (Ag TT disp K d true) K f (.ptr B.c 0) (I n) (I N) (I i) u) fun v h'=>v=I 0/\∃Z mt',Ee h h' B X F Z/\Cc Z L mt'/\Sq Z/\Rm X Z n:=by
 have s0:=c.c.sm.s0;intro f;induction f with
 | zero=>intro i u Y mt' V;omega
 | succ f ih=>
  intro i u Y mt' af hi c1 a H t Q;rw[J9];have o:=t.g;have tf:=t.free;have p2:2<=Y.prs:=a.UC (by rw[o];omega);have fin:∀(h2:Ab),Ee h h2 B X F Y->(n<=X.S.g.E5->n<=Y.prs)->Ok (Oa (Ag TT disp K d false) (Ag TT disp K d true) K (.ptr B.c 0) (I n) h2) fun v h'=>v=I 0/\∃Z mt',Ee h h' B X F Z/\Cc Z L mt'/\Sq Z/\Rm X Z n:=fun h2 c2 G=>by
   refine(Bhn hK c2 (by omega) n d).mono ?_;rintro _ J ⟨rfl,c3⟩;exact⟨rfl,Y,mt',c3,a,H,t.more (by omega),fun y=>absurd y np,G⟩
  simp only[I,Ac];by_cases ag:i<N
  ·have:decide ((i:Int)<(N:Int))=true:=by simp;omega
   simp only[this,Aa,W7];rw[c1.C.ic];refine zj hK c1.C fun h2 x2=>?_
   have c2:=c1.trans (c1.C.Y8 x2);simp only[Ac];by_cases hp:n<=Y.prs
   ·simp only[hp,aC,Aa]
    exact .ret ⟨rfl,Y,mt',c2,a,H,t.more (by omega),fun y=>absurd y np,fun _=>hp⟩
   simp only[hp,aA,Aa,KJ];have tn:=t.nx;have ai:=t.gen;refine Ok.Am (Br9 A hK c2.C a H (by rw[o];omega) (by omega) (by omega) hd) ?_;rintro _ J ⟨b,Z,O,rfl,c3,cz,sz,w⟩;have E:=c2.trans c3;have al:Er (.tuple []) false=false/\Er (.tuple []) true=false:=⟨rfl,rfl⟩;simp only[Aa,I,Ac];rw[show decide ((0:Int)=34)=false from rfl];simp only[Aa,KI];rcases w with⟨rfl,rfl,id⟩|⟨rfl,id,t2,dd,w2⟩
   ·simp only[Aa,Ac,Yk]
    refine fin J E fun G=>?_
    rw[<-congrArg Gm.E5 o]at G;exact Int.le_trans G (a.TZ fun z hz=>a.full id.2 hz)
   ·simp only[aB,aA,Aa,Ac,Yk,KH]
    rw[Cl,show((i:Nat):Int)+1=((i+1:Nat):Int) by omega];have t3:=t.trans t2;refine ih (i+1) J Z O (by omega) (by omega) E cz sz t3 fun _=>⟨UB dd _,?_⟩
    have f2:=t2.free;rw[show(((i+1:Nat):Int)-1)=(i:Int) by omega];rcases dY i with y|y
    ·subst y;simp;omega
    ·obtain⟨U,P⟩:=Q y
     rw[<-o]at U;have:=w2 U;rw[o]at this;rw[Int.sub_mul,Int.one_mul]at P;omega
  ·have:decide ((i:Int)<(N:Int))=false:=by simp;omega
   simp only[this,Aa];refine fin u c1 fun _=>?_
   have e:i=N:=by omega
   have all:=c.c.sm.Ug;obtain⟨_,P⟩:=Q (by omega);refine a.UC ?_;rw[o];have m:X.S.g.S*n<=X.S.g.S*(X.S.g.D*X.S.g.Z):=bT hn (by omega);rw[e,<-hN,Int.sub_mul,Int.one_mul,Int.mul_assoc,Int.mul_comm (X.S.g.D*X.S.g.Z) X.S.g.S]at P;omega
theorem Bsx(C:C0 h B X F)(c:Cc X L mt)(sq:Sq X)(G:3*X.S.g.S<=X.S.free)(H:X.gen+1024<=281474976710655)(J:X.nx+65600<=281474976710655)(hd:26<=d){n:Int}(h0:0<=n)(O:n<=X.S.g.D*X.S.g.Z):Ok (Ag TT disp K d false 20 [.ptr B.c 0,I n] h) fun v h'=>v=I 0/\∃Z mt',Ee h h' B X F Z/\Cc Z L mt'/\Sq Z/\Rm X Z n:=by
 obtain⟨e,rfl⟩:∃k,d=k+1:=⟨d-1,by omega⟩;rw[Auf A (by omega)];simp only[KM,Aa,I,Ac];have P:Er (.tuple []) false=false/\Er (.tuple []) true=false:=⟨rfl,rfl⟩;have a:¬n<0:=by omega
 simp only[a,aA,Aa,Ac];rw[C.ic];refine rE A C fun h2 Q=>?_
 have c2:=C.Y8 Q;have U:¬X.S.g.D*X.S.g.Z<n:=by omega
 simp only[I,Ac,U,aA,Aa,KL,KK];rw[c2.C.ic];refine rE A c2.C fun V x3=>?_
 have c3:=c2.trans (c2.C.Y8 x3);have bd:=C.sm.Ug;obtain⟨N,u⟩:=bA (show 0<=2*(X.S.g.D*X.S.g.Z) by omega);simp only[I,Ac];rw[Cl,u];by_cases np:n<=X.prs
 ·
  have E:K=(K-1)+1:=by omega
  rw[E,J9,<-E];simp only[I,Ac];have o:decide ((0:Int)<(N:Int))=true:=by simp;omega
  simp only[o,Aa,W7];rw[c3.C.ic];refine zj hK c3.C fun h4 x4=>?_
  have c4:=c3.trans (c3.C.Y8 x4);simp only[Ac,np,aC,Aa];exact .ret ⟨rfl,X,mt,c4,c,sq,(Tdy.refl X).more (by omega),fun _=>rfl,fun _=>np⟩
 ·exact A9p A hK c G H J (d:=e) (by omega) O u (by omega) np K 0 V X mt (by omega) (by omega) c3 c sq (Tdy.refl X) fun y=>by omega
theorem UD(C:C0 h B X F)(c:Cc X L mt)(sq:Sq X)(a:3*X.S.g.S<=X.S.free)(o:X.gen+1024<=281474976710655)(u:X.nx+65600<=281474976710655)(hd:27<=d:=by omega):Ok (Ag TT disp K d false 77 [.ptr B.c 0] h) fun v h'=>v=I 0/\∃Z mt',Ee h h' B X F Z/\Cc Z L mt'/\Sq Z/\Rm X Z X.S.g.E5:=by
 obtain⟨e,rfl⟩:∃k,d=k+1:=⟨d-1,by omega⟩;rw[Aof A (by omega)];simp only[I4,Aa];rw[C.ic];refine Ok.Am (Pe (K:=K) C.M C.hb) ?_;rintro _ h2 ⟨rfl,E⟩;rw[UE C.sm,Au];have c3:=C.Y8 (E.Da (.cells (gL X.S.g) 23));have J:=(Bsk c.c.rt).2;have G:0<=X.S.g.E5:=by
  have:=dX (show 0<=X.S.g.D by have:=c.c.sm.d0;omega) c.c.sm.p0;unfold Gm.E5;omega
 refine Ok.Am (Bsx A hK c3.C c sq a o u (d:=e) (by omega) G (by omega)) ?_;rintro _ h4 ⟨rfl,Z,mt',c4,H,sz,r⟩;exact .ret ⟨rfl,Z,mt',c3.trans c4,H,sz,r⟩
omit A hK in
theorem Rm.UF(a:Cc Y L mt')(r:Rm X Y X.S.g.E5):4*X.S.g.S<=Y.S.free:=by
 have p:=r.res (cO _);have q:=a.prs.1;have s:=a.c.sm;have s0:=s.s0;have d0:=s.d0;have p0:=s.p0;rw[r.t.g]at q s0 d0 p0;have o:4<=X.S.g.E5:=by
  have:=dX (show 0<=X.S.g.D by omega) p0;unfold Gm.E5;omega
 have:X.S.g.S*4<=X.S.g.S*Y.prs:=bT (by omega) (by omega);omega
end
end
section
structure Jc(X:Co)(L:List (List Nat))(mt:Int->Int):Prop where
 c:Cc X L mt
 sq:Sq X
 fr:3*X.S.g.S<=X.S.free
structure jd(X Y:Co):Prop where
 g:Y.S.g=X.S.g
 nm:Y.ep=X.ep/\Y.st=X.st
 gen:X.gen<=Y.gen/\Y.gen<=X.gen+1100
 nx:X.nx<=Y.nx/\Y.nx<=X.nx+70000
theorem jd.refl(X:Co):jd X X:=⟨rfl,⟨rfl,rfl⟩,by omega,by omega⟩
theorem Bpl {es:List Me}{j:Int}(h:¬(0<=j/\j<es.length)):Xj es j=(Me.nil 0,13):=by unfold Xj;rw[aG h]
section
variable (A:Bv disp)(hK:10000<K){L:List (List Nat)}
include A hK
theorem A61(C:C0 h B X F)(J:Jc X L mt)(hd:15<=d):Ok (Ag TT disp K d false 60 [.ptr B.c 0] h) fun v h'=>v=I 0/\∃Y,Ee h h' B X F Y/\Jc Y L mt/\jd X Y/\Y.gen=X.gen/\Y.nx=X.nx:=by
 obtain⟨e,rfl⟩:∃k,d=k+1:=⟨d-1,by omega⟩;rw[Ar4 A (by omega)];simp only[HD,Aa];rw[C.ic];obtain⟨D,V,dr⟩:=mX A hK C.M C.hb;rw[dr.D4];have o:=tc J.c.c.ev J.c.c.up;refine Ok.Am (dr.flush (d:=e) (by omega)) ?_;rintro v H ⟨rfl,E,kf,u⟩;have c1:=C.H2 E kf u (rv (tO _));have G:Dq X.S { X.S with dr:=X.S.dr.flush.1 } fun _=>False:=by rw[o];exact Dq.Rt J.c.c
 have a:=J.c.dq G (fun _ _ y=>y.elim) (fun _ _ _=>⟨id,id⟩) fun _ _=>id
 rw[o];rw[o]at c1 a;exact .ret ⟨rfl,_,c1,⟨a,J.sq.es rfl,J.fr⟩,⟨rfl,⟨rfl,rfl⟩,⟨cO _,by show X.gen<=_;omega⟩,⟨cO _,by show X.nx<=_;omega⟩⟩,rfl,rfl⟩
def th(L:List (List Nat))(b:Nat):Nat->List (List Nat)
 | 0=>L
 | n+1=>(th L b n).set (b+n) (List.replicate 32 0)
def n'(es:List Me)(b:Nat):Nat->List Me
 | 0=>es
 | n+1=>(n' es b n).set (b+n) (Me.nil 0)
omit A hK in
theorem zk(es:List Me)(b:Nat):∀n,(n' es b n).length=es.length
 | 0=>rfl
 | n+1=>by unfold n';rw[bP,zk es b n]
omit A hK in
theorem UG(es:List Me)(b:Nat):∀(n j:Nat),j<es.length->(n' es b n)[j]? = if b<=j/\j<b+n then some (Me.nil 0)else es[j]?
 | 0,j,hj=>by rw[aG (by omega)];rfl
 | n+1,j,hj=>by
  unfold n';rw[dR,zk,UG es b n j hj];by_cases h:b+n=j
  ·subst h
   rw[aI rfl,aI hj,aI (by omega)]
  ·rw[aG h]
   by_cases h2:b<=j/\j<b+n
   ·rw[aI h2,aI (by omega)]
   ·rw[aG h2,aG (by omega)]
theorem Bbt(J:b+n<=1000)(a:Co)(G:List (List Nat))(hl:b+n<=a.es.length):∀(f i:Nat) (o:Ab) (Y:Co),n-i<f->i<=n->Ee h o B X F Y->Cc Y (th G b i) mt->Sq Y->Y = { a with es:=n' a.es b i } ->
 Ok (N3 (Ag TT disp K d false) (Ag TT disp K d true) K f (.ptr B.c 0) (I (b:Int)) (I (n:Int)) (I ((b+i:Nat):Int)) o) fun v h'=>v=I 0/\∃Z,Ee h h' B X F Z/\Cc Z (th G b n) mt/\Sq Z/\Z = { a with es:=n' a.es b n }:=by
 intro f;induction f with
 | zero=>intro i o Y O;omega
 | succ f P=>
  intro i o Y O hi c1 u H e;rw[N3];simp only[I,Ac];rw[Cl (n:=(b:Int)+n)];have el:Y.es.length=a.es.length:=by rw[e];exact zk _ _ _
  by_cases Q:i<n
  ·have hd:decide (((b+i:Nat):Int)<(b:Int)+n)=true:=by simp;omega
   simp only[hd,Aa,MJ];rw[c1.C.ji,Ax (l:=(Me.nil 0).cells) rfl];have ms:=tB (K:=K) c1.C.sm c1.C.map c1.C.hb (x:=Me.nil 0) (fun y=>by cases y) ((b+i:Nat):Int);have U:meR Y.S.g (Me.nil 0)=true:=by unfold meR;rw[aI (.inl rfl)];exact aM rfl
   have V:kA Y.S.g Y.es ((b+i:Nat):Int) (Me.nil 0)=(Y.es.set (b+i) (Me.nil 0),0):=by
    unfold kA;rw[aI ⟨by omega,by omega⟩,aI U,bF]
   rw[V]at ms;refine Ok.Am ms ?_;rintro _ h2 ⟨rfl,m2,k2,E⟩;have c2:=c1.trans (c1.C.wX m2 k2 E);simp only[MI,Ac];rw[Cl,show(((b+i:Nat):Int))+1=((b+(i+1):Nat):Int) by omega];have cs:=u.set (j:=b+i) (by omega) (x:=Me.nil 0) (bs:=List.replicate 32 0) (.inl ⟨rfl,rfl⟩) (by have:=u.nm.2.2;show(0:Int)<_;omega);refine P (i+1) h2 _ (by omega) (by omega) c2 cs (H.set (Y:={ Y with es:=Y.es.set (b+i) (Me.nil 0) }) u.sq rfl fun y=>by cases y) ?_;rw[e];rfl
  ·have hd:decide (((b+i:Nat):Int)<(b:Int)+n)=false:=by simp;omega
   have ei:i=n:=by omega
   subst ei;simp only[hd,Aa,MH];exact .ret ⟨rfl,Y,c1,u,H,e⟩
end
end
section
theorem Bms {n b m:Int}(h0:1<=n)(a:n<=281474976710655)(b0:0<=b)(b1:b<=255)(o:1<=m)(m1:m<=256-b):EOk ⟨2,n,1,b,m,0,Du⟩ 1 n:=by
 unfold EOk Ex;rw[aI];refine⟨?_,?_,cO _,by show n-1<n;omega⟩
 ·unfold iR pB
  simp only[aS,Ez];refine⟨⟨by omega,a⟩,⟨b0,b1⟩,⟨by decide,by decide⟩,?_⟩;simp[Ez];omega
 ·unfold hY
  simp only[aS,Ez];exact⟨⟨by decide,by decide⟩,⟨by decide,by decide⟩,⟨by decide,by decide⟩,⟨by decide,by decide⟩,by omega,a⟩
def lS(g:Gm)(b m:Int):Bool:=(decide (0<=b)&&decide (b<g.B))&&(decide (1<=m)&&decide (m<=g.B-b))
section
variable (A:Bv disp)(hK:10000<K){L:List (List Nat)}
include A hK
theorem Bar(C:C0 h B X F)(J:Jc X L mt)(hg:X.gen+1100<=281474976710655)(hx:X.nx+70000<=281474976710655)(hd:28<=d)(block many:Int):Ok (Ag TT disp K d false 30 [.ptr B.c 0,I block,I many] h) fun v h'=>∃(e:Int) (Y:Co) (a:List (List Nat)) (mt':Int->Int),v=I e/\Ee h h' B X F Y/\Jc Y a mt'/\jd X Y /\
 ((lS X.S.g block many=false/\e=13/\Y=X/\a=L)\/(lS X.S.g block many=true/\e=0/\a=th L block.toNat many.toNat/\∀i:Nat,block<=i->(i:Int)<block+many->Y.es[i]? = some (Me.nil 0))):=by
 obtain⟨e,rfl⟩:∃k,d=k+1:=⟨d-1,by omega⟩;have b1:=C.sm.b1;rw[Aui A (by omega)];simp only[MN,Aa];refine Ok.Am (EM (K:=K) C block) ?_;rintro _ h2 ⟨rfl,x2⟩;have c2:=C.Y8 x2;have ai:Er (.tuple []) false=false/\Er (.tuple []) true=false:=⟨rfl,rfl⟩;have no:∀h',Ee h h' B X F X->lS X.S.g block many=false->Ok (some (.int .i64 13,h')) fun v h'=>∃(e:Int) (Y:Co) (a:List (List Nat)) (mt':Int->Int),v=I e/\Ee h h' B X F Y/\Jc Y a mt'/\jd X Y /\
  ((lS X.S.g block many=false/\e=13/\Y=X/\a=L)\/(lS X.S.g block many=true/\e=0/\a=th L block.toNat many.toNat/\∀i:Nat,block<=i->(i:Int)<block+many->Y.es[i]? = some (Me.nil 0))):=fun h' c t=>.ret ⟨13,X,L,mt,rfl,c,J,jd.refl X,.inl ⟨t,rfl,rfl,rfl⟩⟩
 cases G:(decide (0<=block)&&decide (block<X.S.g.B))with
 | false=>
  simp only[Aa,Ac,Rf,Nx];exact no _ c2 (by unfold lS;rw[G];rfl)
 | true=>
 have Q:=G;simp only[aS,aV]at G;simp only[Aa,Ac,I];by_cases U:many<1
 ·simp only[U,aC,Aa,Ac,Rf,Nx]
  exact no _ c2 (by unfold lS;rw[aJ (show ¬1<=many by omega),av,dI])
 simp only[U,aA,Aa,Ac,Rf];rw[c2.C.ic];refine Ok.Am (Pe (K:=K) c2.C.M c2.hb) ?_;rintro _ h3 ⟨rfl,x3⟩;have c3:=c2.trans (c2.C.Y8 x3);unfold gV;rw[w_ (v:=I X.S.g.B) rfl];simp only[I,Ac];rw[Cl];by_cases h4:X.S.g.B-block<many
 ·simp only[h4,aC,Aa,Ac,Nx]
  exact no _ c3 (by unfold lS;rw[aJ (show ¬many<=X.S.g.B-block by omega),dI,dI])
 clear no;have ht:lS X.S.g block many=true:=by unfold lS;rw[Q,aM (show 1<=many by omega),aM (show many<=X.S.g.B-block by omega)];rfl
 simp only[h4,aA,Aa,Ac,Nx,MM];refine Ok.Am (UD A hK c3.C J.c J.sq J.fr (by omega) (by omega) (d:=e)) ?_;rintro _ h5 ⟨rfl,Y,mt',o,V,sy,r⟩;have o:=c3.trans o;have mu:=r.UF V;have s0:=J.c.c.sm.s0;have tn:=r.t.nx;have yn:=V.nm;simp only[I,Ac,aB,aA,Aa,ML];rw[o.C.kC];have fe:=Ο Y.nx block many;rw[<-En.H6]at fe;simp only[I]at fe⊢;rw[Ax fe];refine Ok.Am (TO A hK (d:=e) (by omega) (⟨m',Ρ⟩:(⟨2,Y.nx,1,block,many,0,Du⟩:En).Wf) o.C V (by rw[yn.2.1];exact Bms yn.2.2 (by omega) (by omega) (by omega) (by omega) (by omega)) (by omega) (by omega)) ?_;rintro _ h6 ⟨x,Z,u,rfl,H,cz,E⟩;have H:=o.trans H;simp only[Aa];refine Ok.mk rfl rfl fun h7 x7 _ _=>?_
 have c7:=H.trans (H.C.Y8 x7);simp only[I,Ac,aB,aA,Aa,MK];obtain⟨b,hb⟩:=bA G.1;obtain⟨n,hn⟩:=bA (show 0<=many by omega);subst hb hn;have lb:=J.c.lb;have b0:=C.sm.b0;have zl:Z.es.length=X.es.length:=by rw[E.es,r.t.len]
 have sz:Sq Z:=sy.es E.es;refine(Bbt A hK (mt:=u) (b:=b) (n:=n) (by omega) (d:=e) Z L (by omega) K 0 h7 Z (by omega) (by omega) c7 cz sz rfl).mono ?_;rintro _ h8 ⟨rfl,W,c8,cw,sw,ew⟩;have O:=E.nm;have pf:=E.free;have pg:=E.g;have tg:=r.t.g;have a1:=r.t.gen;have wS:W.S=Z.S:=by rw[ew]
 have P:W.gen=Z.gen/\W.nx=Z.nx/\W.ep=Z.ep/\W.st=Z.st:=by rw[ew];exact⟨rfl,rfl,rfl,rfl⟩
 refine⟨0,W,_,u,rfl,c8,⟨cw,sw,by rw[wS,pg,tg];omega⟩,⟨by rw[wS,pg,tg],⟨by rw[P.2.2.1,O.2.1,r.t.nm.1],by rw[P.2.2.2,O.2.2.2,r.t.nm.2]⟩,by rw[P.1,O.1];omega,by rw[P.2.1,O.2.2.1];omega⟩,.inr ⟨ht,rfl,rfl,fun i h0 U=>?_⟩⟩;have es:W.es=n' Z.es b n:=by rw[ew]
 rw[es,UG _ _ _ _ (by omega),aI (by omega)]
end
end
section
structure Rd'(X Y:Co):Prop where
 es:Y.es=X.es
 nm:Y.gen=X.gen/\Y.ep=X.ep/\Y.nx=X.nx/\Y.st=X.st
 g:Y.S.g=X.S.g
 cl:∀z,Y.closed z=X.closed z
 o:Y.S.a=X.S.a/\Y.S.b=X.S.b
theorem Rd'.refl(X:Co):Rd' X X:=⟨rfl,⟨rfl,rfl,rfl,rfl⟩,rfl,fun _=>rfl,⟨rfl,rfl⟩⟩
theorem Rd'.trans(a:Rd' X Y)(b:Rd' Y Z):Rd' X Z:=⟨b.es.trans a.es,⟨b.nm.1.trans a.nm.1,b.nm.2.1.trans a.nm.2.1,b.nm.2.2.1.trans a.nm.2.2.1,b.nm.2.2.2.trans a.nm.2.2.2⟩,b.g.trans a.g,fun z=>(b.cl z).trans (a.cl z),⟨b.o.1.trans a.o.1,b.o.2.trans a.o.2⟩⟩
theorem Rd'.UH(r:Rd' X Y):jd X Y:=⟨r.g,⟨r.nm.2.1,r.nm.2.2.2⟩,by have:=r.nm.1;omega,by have:=r.nm.2.2.1;omega⟩
theorem Cc.Bse{L:List (List Nat)}(c:Cc X L mt):Cc { X with S:=X.S.Es.Es } L mt/\({ X with S:=X.S.Es.Es }:Co).S.free=X.S.free/\Rd' X { X with S:=X.S.Es.Es }:=by
 have q:=(Dq.Es c.c);have c1:=c.q0 q;have a:=(Dq.Es c1.c);have c2:=c1.q0 a;exact⟨c2,rfl,rfl,⟨rfl,rfl,rfl,rfl⟩,rfl,fun z=>(Na a z).trans (Na q z),⟨rfl,rfl⟩⟩
theorem Cc.entry{L:List (List Nat)}(c:Cc X L mt){x:Me}(o:X.es[j]? = some x):∃bs,L[j]? = some bs/\bs.length=32/\((x=Me.nil 0/\bs=List.replicate 32 0)\/Mr X mt x bs):=by
 have a:j<L.length:=by rw[c.len];exact(aY.1 o).1
 have h:=c.A0t j x _ o (aD a);refine⟨_,aD a,?_,h⟩;rcases h with w|w
 ·rw[w.2];simp
 ·obtain⟨e,u,C,_⟩:=w.rc.ex
  rw[<-C];exact u.1
section
variable (A:Bv disp)(hK:10000<K){L:List (List Nat)}
include A hK
theorem Bbr(C:C0 h B X F)(c:Cc X L mt)(hd:29<=d)(j:Int):Ok (Ag TT disp K d false 47 [.ptr B.c 0,I j] h) fun v h'=>∃(bl:List Nat) (e:Int) (Y:Co),v=.tuple [.agg (Bj bl),I e]/\bl.length=32/\Ee h h' B X F Y/\Cc Y L mt/\Y.S.free=X.S.free/\Rd' X Y/\((0<=j/\j<X.S.g.B/\e=0/\L[j.toNat]? = some bl)\/(¬(0<=j/\j<X.S.g.B)/\e=13/\Y=X)):=by
 obtain⟨dd,rfl⟩:∃k,d=k+1:=⟨d-1,by omega⟩;rw[Aud A (by omega)];simp only[GY,Aa];rw[Jh];obtain⟨h1,e_,x1,g4,n1⟩:=nW h (.cells (Bj Du) 49);rw[e_];have G:=C.ext x1;rw[G.ji];refine Ok.Am (pK (K:=K) G.sm G.map G.hb j) ?_;rintro _ h2 ⟨rfl,H⟩;have rg:=rG C.sm (q6 C.map.ok j);have lb:=c.lb;have b0:=C.sm.b0;have fin:∀(o:Ab),Ext h o->h.next<o.next->∀(bl:List Nat) (e:Int) (h4:Ab) (Y:Co),bl.length=32->Ee o h4 B X (Bk F h o) Y->h4.get h.next=some (.cells (Bj Du) 49)->Cc Y L mt/\Y.S.free=X.S.free/\Rd' X Y/\((0<=j/\j<X.S.g.B/\e=0/\L[j.toNat]? = some bl)\/(¬(0<=j/\j<X.S.g.B)/\e=13/\Y=X))->Ok (f_ 32 (.ptr h.next 0) (.agg (Bj bl)) h4 fun h=>Jk TT [.c (.ptr (h1.next-1) 0) 49,.v (.int .i64 e)] h) fun v h'=>∃(bl:List Nat) (e:Int) (Y:Co),v=.tuple [.agg (Bj bl),I e]/\bl.length=32/\Ee h h' B X F Y/\Cc Y L mt/\Y.S.free=X.S.free/\Rd' X Y/\((0<=j/\j<X.S.g.B/\e=0/\L[j.toNat]? = some bl)\/(¬(0<=j/\j<X.S.g.B)/\e=13/\Y=X)):=by
  intro o a az bl e h4 Y hl c4 P q;have ul:(Bj bl).length=32:=by rw[Bg,hl]
  have l4:=c4.hb _ _ P;rw[show h1.next-1=h.next by omega];refine Ok.st (Bj bl) P rfl (by show Ga (Bj bl)=32;rw[Bh,ul]) (Bn (by show(Bj Du).length=(Bj bl).length;rw[ul,Bg,m'])) ?_;rw[Ej (Ae _ _ _) jv.1 jv.2 ul];exact .ret ⟨bl,e,Y,rfl,hl,Ee.xh a c4 ((Av.refl (S:=fun i=>i=h.next) h4).Ar (.inl rfl) l4 _) (fun i hi=>by subst hi;omega) (c4.hb.put l4 _),q⟩
 rw[show h1.next-1=h.next by omega]at fin;have bz:∀k:EV->R,Bo (Mt 1) (Bj Du) [] k=k (.agg (Bj Du)):=fun k=>Ax rfl
 have a1:=H.hb G.hb;have a2:Er (.tuple []) false=false/\Er (.tuple []) true=false:=⟨rfl,rfl⟩;simp only[Aa];by_cases hj:0<=j/\j<X.es.length
 case neg=>
  rw[Bpl hj];simp only;refine Ok.mk rfl rfl fun o J e3 _=>?_
  have a:Ext h o:=(x1.trans H).trans J;have E:=Ext.at (H.trans J) G.hb g4;have ae:=(H.trans J).next
  have u:=C.ext a;simp only[I,Ac];have Q:¬(13:Int)=0:=by decide
  simp only[Q,aR,aC,Aa,Ac,Rp];rw[Jh,bz];exact fin o a (by omega) Du 13 o X rfl (Ee.refl u) E ⟨c,rfl,Rd'.refl X,.inr ⟨by omega,rfl,rfl⟩⟩
 obtain⟨b,rfl⟩:=bA hj.1;have O:=aD (show b<X.es.length by omega);rw[zf O]at rg⊢;simp only at rg⊢;generalize X.es[b]=x at O rg⊢;refine Ok.mk rfl rfl fun o J e3 _=>?_
 have a:Ext h o:=(x1.trans H).trans J;have E:=Ext.at (H.trans J) G.hb g4;have ae:=(H.trans J).next
 have u:=C.ext a;have f4:Bk F h o h.next:=.inr ⟨aE _,by omega⟩
 obtain⟨bs,hL,U,af⟩:=c.entry O;have V:(b:Int)<X.S.g.B:=by omega
 simp only[I,Ac,aB,aA,Aa];rw[Ai e3 rfl (v:=I x.state) rfl];simp only[I,Ac];rcases af with⟨rfl,rfl⟩|lv
 ·simp only[show(Me.nil 0).state=0 from rfl,aC,Aa,Ac,Rp]
  rw[Jh,bz];exact fin o a (by omega) Du 0 o X rfl (Ee.refl u) E ⟨c,rfl,Rd'.refl X,.inl ⟨by omega,V,rfl,by rw[bF,hL];rfl⟩⟩
 have s1:=lv.st;simp only[s1,Aa,Ac];rw[show decide ((1:Int)=0)=false from rfl];simp only[Aa,Ac,Rp];rw[Ai e3 rfl (v:=I x.state) rfl];simp only[I,Ac,s1];rw[show decide ((1:Int)=2)=false from rfl];simp only[Aa,Ac,GX];have lc:=u.hb _ _ u.core;have l6:=u.hb _ _ e3;rw[Hb lc,u.ic];simp only[Aa,As];rw[Hb l6,Cn e3 rfl (Aj (n:=6) rfl)];simp only[Aa,As];have ck:=UI A hK (d:=dd) (by omega) u.lift.M u.lift.hb rg.1 rg.2;have mk:=CV X.S x;rw[c.check lv]at ck mk;obtain⟨jt,ft,rt⟩:=c.Bse;refine Ok.bC (S:=fun j=>¬B.fr (Bk F h o) j) ck (fun _ _ p=>p.2.2.2.1) ?_;rintro _ a4 h4 s' ⟨rfl,bw,M',_,ag⟩ sm ch ah;have c4:=u.H2 (M'.same sm) ch (sm.hb ag) mk;simp only at c4 bw;generalize ({ X with S:=X.S.Es.Es }:Co)=Y at c4 jt ft rt;have ul:(Bj bs).length=32:=by rw[Bg,U]
 simp only[Aa];rw[G1 (by rcases ah with rfl|⟨w,rfl,_⟩<;>kernel_rfl)];refine Ok.st (Bj bs) (Ad _ _) rfl (by show Ga (Bj bs)=32;rw[Bh,ul]) (Bn (by rw[bV];exact ul.symm)) ?_;obtain⟨h5,e_,x5,g8,n5⟩:=nP h4 (.cells (List.replicate 32 (EV.int .u8 0)) 49) (.cells (Bj bs) 49);rw[e_];have c5:=c4.trans (c4.C.Y8 x5);have ai:=c5.k.at u.hb E f4;simp only[I,Ac,aB,aA,Aa,GW];have aj:¬(2:Int)<2:=by decide
 simp only[aj,aA,Aa,Ac,GV,GU,dr];rw[Cn g8 rfl (Aj ul)];exact fin o a (by omega) bs 0 h5 Y U c5 ai ⟨jt,ft,rt,.inl ⟨by omega,V,rfl,by rw[bF];exact hL⟩⟩
theorem A9l(C:C0 h B X F)(J:Jc X L mt)(hd:29<=d)(j:Int):Ok (Ag TT disp K d false 47 [.ptr B.c 0,I j] h) fun v h'=>∃(bl:List Nat) (e:Int) (Y:Co),v=.tuple [.agg (Bj bl),I e]/\bl.length=32/\Ee h h' B X F Y/\Jc Y L mt/\Rd' X Y/\((0<=j/\j<X.S.g.B/\e=0/\L[j.toNat]? = some bl)\/(¬(0<=j/\j<X.S.g.B)/\e=13/\Y=X)):=by
 refine(Bbr A hK C J.c hd j).mono ?_;rintro v h' ⟨bl,e,Y,a,b,c,o,f,r,w⟩;exact⟨bl,e,Y,a,b,c,⟨o,J.sq.es r.es,by rw[r.g,f];exact J.fr⟩,r,w⟩
end
end
section
def Co.j8(X:Co)(es:List Me):Co:={ X with es:=es }
section
variable (A:Bv disp)(hK:10000<K){L:List (List Nat)}
include A hK
theorem Bs9(hd:22<=d)(w:e.Wf){o:List Me}(C:C0 h B X F)(c:Cc (X.j8 o) L mt)(he:EOk e X.ep X.nx)(hf:1<=X.S.free)(hx:X.nx<=281474976710655):Ok (Ag TT disp K d false 78 [.ptr B.c 0,.agg e.cells] h) fun v h'=>∃x Y mt',v=.tuple [.agg x.cells,I 0]/\Ee h h' B X F Y/\Cc (Y.j8 o) L mt'/\Pt (X.j8 o) (Y.j8 o) mt mt' e x/\Y.es=X.es:=by
 obtain⟨dd,rfl⟩:∃k,d=k+1:=⟨d-1,by omega⟩;rw[HO A];simp only[xz,Aa];rw[show(h.new (.cells e.cells 131)).next=h.next+1 from rfl];have O:Ext h ((h.new (.cells e.cells 131)).new (.cells (Me.nil 0).cells 47)):=(Av.new _ _).Da _;have n1:((h.new (.cells e.cells 131)).new (.cells (Me.nil 0).cells 47)).next=h.next+2:=rfl
 have P:((h.new (.cells e.cells 131)).new (.cells (Me.nil 0).cells 47)).get h.next=some (.cells e.cells 131):=by rw[Ay _ (aO _)];exact Ad _ _
 have g4:((h.new (.cells e.cells 131)).new (.cells (Me.nil 0).cells 47)).get (h.next+1)=some (.cells (Me.nil 0).cells 47):=Ad _ _;rw[show[EV.int .i64 0,.int .i64 0,.int .i64 0,.int .i64 0,.int .i64 0,.int .i64 0]=(Me.nil 0).cells from rfl];generalize (h.new (.cells e.cells 131)).new (.cells (Me.nil 0).cells 47)=J at O n1 P g4⊢;have a:=C.ext O;have f4:Bk F h J (h.next+1):=.inr ⟨by omega,by omega⟩;have un:X.st=false:=c.un;rw[a.DI,un];simp only[Aa];have lc:=a.hb _ _ a.core;have l3:=a.hb _ _ P;have el:=En.Bc w;simp only[Tl,Aa];rw[Hb lc,a.ic];simp only[Aa,As];rw[Hb l3,Cn P rfl (Aj el)];simp only[Aa,As];rw[Hb lc,a.wZ];simp only[Aa,As];rw[Hb lc,a.kC];simp only[Aa,As];have C':=a.lift;obtain⟨T,mt',x,hp,cc,pt⟩:=TM c w he hf;have hp:X.S.place e X.ep X.nx=(T,x,0):=hp;have nm:0<=X.gen/\X.ep=1/\1<=X.nx:=c.nm;have pl:=TQ A hK (d:=dd) (by omega) C'.M C'.hb w X.ep X.nx;rw[hp]at pl;refine Ok.bC (S:=fun j=>¬B.fr (Bk F h J) j) pl (fun _ _ p=>p.2.2.1) ?_;rintro _ au h2 s' ⟨rfl,M',_,Q⟩ sm ch U;have mk:=CT X.S e X.ep X.nx;rw[hp]at mk;have c2:=a.H2 (M'.same sm) ch (sm.hb Q) mk;have V:=c2.k.at a.hb g4 f4;simp only[Aa];rw[G1 (by rcases U with rfl|⟨w,rfl,_⟩<;>kernel_rfl)];refine Ok.mk rfl rfl fun G x3 e3 _=>?_
 have c3:=c2.trans (c2.C.Y8 x3);have aa:=x3.at c2.hb V;have ab:B.c≠h2.next:=by have:=c2.hb _ _ c2.C.core;omega
 have ad:B.c≠h.next+1:=fun y=>a.out _ f4 (.inl y.symm)
 simp only[I,Ac,aC,Aa];rw[c3.C.kC];simp only[I,Ac];rw[Cl (by show _<=X.nx+1;omega) (by show X.nx+1<=_;omega)];refine Ok.gT c3.C.core rfl rfl (by show 5<7;decide) ?_;have c4:=c3.trans (c3.C.wY X.gen X.ep (X.nx+1) X.st);have H:(G.put B.c (.cells (({ X with S:=T,nx:=X.nx+1 }:Co).cells B) 109)).get h2.next=some (.cells x.cells 47):=by rw[Af _ ab];exact e3
 have E:(G.put B.c (.cells (({ X with S:=T,nx:=X.nx+1 }:Co).cells B) 109)).get (h.next+1)=some (.cells (Me.nil 0).cells 47):=by rw[Af _ ad];exact aa
 have u:Ee J (G.put B.c (.cells (({ X with S:=T,nx:=X.nx+1 }:Co).cells B) 109)) B X (Bk F h J) { X with S:=T,nx:=X.nx+1 }:=c4;show Ok (O5 _ _ _ _ _ _ (G.put B.c (.cells (({ X with S:=T,nx:=X.nx+1 }:Co).cells B) 109))) _;generalize G.put B.c (.cells (({ X with S:=T,nx:=X.nx+1 }:Co).cells B) 109)=h4 at u H E⊢;have l4:=u.hb _ _ E;simp only[O5,dr];rw[Cn H rfl (Aj (n:=6) rfl)];refine Ok.mS E rfl rfl ?_;rw[Ej (Ae _ _ _) kQ.1 kQ.2 rfl];exact .ret ⟨x,_,mt',rfl,Ee.xh O u ((Av.refl (S:=fun i=>i=h.next+1) h4).Ar (.inl rfl) l4 _) (fun i hi=>by subst hi;omega) (u.hb.put l4 _),cc,pt,rfl⟩
end
def j9(g:Gm)(w:Wr):Bool:=decide (0<=w.block)&&decide (w.block<g.B)
def n_(g:Gm)(L:List Wr):Bool:=L.all (j9 g)&&(decide (1<=(L.length:Int))&&decide ((L.length:Int)<=4))
theorem Bj0 {p:Wr->Bool}{L:List Wr}(a:i<L.length)(h:(L.take i).all p=true)(hp:p L[i]=true):(L.take (i+1)).all p=true:=by
 rw[fV,aD a,List.all_append,h];simp[hp]
section
variable{L:List Wr}(fb:0<L.length->F b)(hL:L.length<=2000000)
include fb hL
theorem A9f:∀(f i:Nat) (h:Ab),L.length-i<f->i<=L.length->(L.take i).all (j9 X.S.g)=true->C0 h B X F->jS h v b L ->
 Ok (Nc K f (.ptr B.c 0) v v (I L.length) (I i) h) fun w h'=>w=.bool (n_ X.S.g L)/\Ext h h':=by
 intro f;induction f with
 | zero=>intro i h O;omega
 | succ f P=>
  intro i h O hi E C W;rw[Nc];simp only[I,Ac];by_cases o:i<L.length
  ·have:decide ((i:Int)<(L.length:Int))=true:=by simp;omega
   simp only[this,Aa,JA];rw[W.at o];have wf:=W.wf _ (bH o);have G:=Bj0 (p:=j9 X.S.g) o E;have u:j9 X.S.g L[i]=false->L.all (j9 X.S.g)=false:=fun y=>by
    rw[List.all_eq_false];exact⟨_,bH o,by rw[y];simp⟩
   generalize L[i]=w at wf G u⊢;have wl:=Wr.len wf
   try simp only[Aa]
   rw[xj];refine Ok.mk rfl wl fun h3 H e3 _=>?_
   rw[Ai e3 rfl (v:=I w.block) rfl];refine Ok.Am (EM (K:=K) (C.Y8 H).C w.block) ?_;rintro _ h4 ⟨rfl,Q⟩;have x:=H.trans Q;show Ok (jj (.bool (j9 X.S.g w)) _) _;cases hw:j9 X.S.g w with
   | false=>
    simp only[Aa];exact .ret ⟨by unfold n_;rw[u hw,av],x⟩
   | true=>
    simp only[Aa,I_,Ac];rw[Cl,show((i:Nat):Int)+1=((i+1:Nat):Int) by omega];refine Ok.mono (P (i+1) h4 (by omega) (by omega) (G hw) (C.Y8 x).C (W.frame fun y=>x.get _ (C.M.lt _ (.inl (fb y))) id)) ?_;rintro w h5 ⟨a,U⟩;exact⟨a,x.trans U⟩
  ·have:decide ((i:Int)<(L.length:Int))=false:=by simp;omega
   have V:Er (.tuple []) false=false/\Er (.tuple []) true=false:=⟨rfl,rfl⟩;have ei:i=L.length:=by omega
   rw[ei,bW]at E;simp only[this,Aa,I'];rw[W.Hg];unfold n_;rw[E];simp only[I,Ac];by_cases J:1<=(L.length:Int)
   ·simp only[J,aC,Aa,Ac]
    rw[W.Hg];simp only[I,Ac,Xm,Aa];exact .ret ⟨rfl,Av.refl _⟩
   ·simp only[J,aA,Aa,Ac,Xm]
    exact .ret ⟨rfl,Av.refl _⟩
end
end
section
def fB(W:List Wr)(k:Nat):Nat:=((W[k]?).getD ⟨0,Du⟩).block.toNat
def fY(W:List Wr)(k:Nat):List Nat:=((W[k]?).getD ⟨0,Du⟩).bytes
def fX(xs:List Me)(k:Nat):Me:=(xs[k]?).getD (Me.nil 0)
def Xw(es:List Me)(W:List Wr)(xs:List Me):Nat->List Me
 | 0=>es
 | n+1=>(Xw es W xs n).set (fB W n) (fX xs n)
def oc(L:List (List Nat))(W:List Wr):Nat->List (List Nat)
 | 0=>L
 | n+1=>(oc L W n).set (fB W n) (fY W n)
theorem zm(es:List Me)(W:List Wr)(xs:List Me):∀n,(Xw es W xs n).length=es.length
 | 0=>rfl
 | n+1=>by unfold Xw;rw[bP,zm es W xs n]
theorem UJ(es:List Me)(W:List Wr)(xs a:List Me):∀n,n<=xs.length->Xw es W (xs++a) n=Xw es W xs n
 | 0,_=>rfl
 | n+1,h=>by
  unfold Xw;rw[UJ es W xs a n (by omega)];unfold fX;rw[bm (by omega)]
theorem Bkw {f n b m:Int}(h0:0<=f)(a:f<=n)(u:n<f+m)(o:n<=281474976710655)(b0:0<=b)(b1:b<=255)(C:1<=m)(m1:m<=4):EOk ⟨1,f,m,b,0,0,bl⟩ 1 n:=by
 unfold EOk Ex;rw[aI];refine⟨?_,?_,a,by show n-m<f;omega⟩
 ·unfold iR pB
  simp only[aS,Ez];refine⟨⟨h0,by omega⟩,⟨b0,b1⟩,⟨by decide,by decide⟩,?_⟩;simp[Ez];omega
 ·unfold hY
  simp only[aS,Ez];exact⟨⟨by decide,by decide⟩,⟨by decide,by decide⟩,⟨by decide,by decide⟩,⟨by decide,by decide⟩,by omega,o⟩
def UK(g:Gm)(xs:List Me):Prop:=∀x∈xs,meR g x=true
section
variable (A:Bv disp)(hK:10000<K){W:List Wr}(fb:0<W.length->F b)(hL:W.length<=4)
include A hK fb hL
theorem A9i{s:EV}{xs:List Me}(hx:W.length<=xs.length)(fq:0<xs.length->F q)(a:Co)(mo:UK a.S.g xs)(hw:∀w∈W,j9 a.S.g w=true)(hl:(a.es.length:Int)=a.S.g.B):∀(f i:Nat) (H:Ab) (Y:Co),W.length-i<f->i<=W.length->Ee h H B X F Y->jS H v b W->EN H s q xs->Y=a.j8 (Xw a.es W xs i) ->
 Ok (I7 (Ag TT disp K d false) (Ag TT disp K d true) K f (.ptr B.c 0) s v (I W.length) (I i) H) fun v h'=>v=I 0/\Ee h h' B X F (a.j8 (Xw a.es W xs W.length)):=by
 intro f;induction f with
 | zero=>intro i H Y hf;omega
 | succ f ih=>
  intro i H Y hf hi c1 U P e;rw[I7];simp only[I,Ac];by_cases E:i<W.length
  ·have:decide ((i:Int)<(W.length:Int))=true:=by simp;omega
   simp only[this,Aa,MP];rw[U.at E];have wf:=U.wf _ (bH E);have wh:=hw _ (bH E);have wb:fB W i=W[i].block.toNat:=by unfold fB;rw[aD E];rfl
   generalize W[i]=w at wf wh wb⊢;have wl:=Wr.len wf;unfold j9 at wh;simp only[aS,aV]at wh
   try simp only[Aa]
   rw[xj];refine Ok.mk rfl wl fun h3 Q e3 _=>?_
   have c3:=c1.trans (c1.C.Y8 Q);have lc:=c3.hb _ _ c3.C.core;have l3:=c3.hb _ _ e3;have hq:0<xs.length:=by omega
   have o:=P.row.frame (h':=h3) fun y=>Q.get _ (c1.hb _ _ (P.row.block y)) id
   have lq:=c3.hb _ _ (o.block hq);have u:i<xs.length:=by omega
   rw[Hb lc,c3.C.ji];simp only[Aa,As];rw[Hb l3,Ai e3 rfl (v:=I w.block) rfl];simp only[Aa,As];have ix:=o.ix u .i64;rw[ix,Hb lq,Cn (o.block hq) rfl (tA xs u)];simp only[Aa,As];have rg:=P.rng _ (bH u);have mr:=mo _ (bH u);have xi:fX xs i=xs[i]:=by unfold fX;rw[aD u];rfl
   generalize xs[i]=x at rg mr xi⊢;have V:=c3.C.lift;have ms:=tB (K:=K) V.sm V.map V.hb (x:=x) (fun _=>rg) w.block;have el:Y.es.length=a.es.length:=by rw[e];exact zm _ _ _ _
   have eg:Y.S.g=a.S.g:=by rw[e];rfl
   have sf:kA Y.S.g Y.es w.block x=(Y.es.set (fB W i) x,0):=by
    unfold kA;rw[aI ⟨wh.1,by omega⟩,eg,aI mr,wb]
   rw[sf]at ms;refine Ok.bC (S:=fun i=>i=B.ml\/i=B.ll) ms (fun _ _ p=>p.2.2.1) ?_;rintro _ aw h6 s3 ⟨rfl,m6,_,aa⟩ G ab _;have J:=c3.C.wX (m6.frame (G.get _) (G.get _) (G.get _)) ab (G.hb aa);simp only[MO,Ac];rw[Cl,show((i:Nat):Int)+1=((i+1:Nat):Int) by omega];have O:∀j,F j->h6.get j=H.get j:=fun j hj=>by
    have l:=c1.C.M.lt _ (.inl hj);rw[J.k.get _ (aN l Q.next) fun y=>y hj,Q.get _ l id]
   refine ih (i+1) h6 _ (by omega) (by omega) (c3.trans J) (U.frame fun y=>O _ (fb y)) ⟨P.row.frame fun y=>O _ (fq y),P.rng⟩ ?_;rw[e];show a.j8 ((Xw a.es W xs i).set (fB W i) x)=_;rw[<-xi];rfl
  ·have:decide ((i:Int)<(W.length:Int))=false:=by simp;omega
   have ei:i=W.length:=by omega
   subst ei;simp only[this,Aa,Vw];exact .ret ⟨rfl,e▸c1⟩
def Bup(h h':Ab)(B:Cb)(X:Co)(F:Nat->Prop)(a:Co)(L:List (List Nat))(W:List Wr):Prop:=∃Z mt',Ee h h' B X F Z/\Cc Z (oc L W W.length) mt'/\Sq Z/\Z.S.g=a.S.g/\Z.gen=a.gen/\Z.ep=a.ep/\Z.st=a.st/\Z.nx=a.nx+W.length/\a.S.free-W.length<=Z.S.free
theorem A9u {L:List (List Nat)}(hd:22<=d)(ad:∀j,F j->j<h.next)(o:Co)(n0:1<=o.nx)(aw:o.ep=1)(hw:∀w∈W,j9 o.S.g w=true)(hb:(o.es.length:Int)=o.S.g.B/\o.S.g.B<=256)(bx:4<=o.S.free)(bz:o.nx+4<=281474976710655):∀(f i:Nat) (u:Ab) (Y:Co) (s:EV) (q:Nat) (xs:List Me) (mt:Int->Int),W.length-i<f->i<=W.length->xs.length=i->Ee h u B X F Y->C0 u B Y (fun j=>F j\/(0<xs.length/\j=q))->(0<xs.length->h.next<=q)->jS u v b W->EN u s q xs->Y.es=o.es->Y.S.g=o.S.g->Y.gen=o.gen->Y.ep=o.ep->Y.st=o.st->Y.nx=o.nx+i->o.S.free-i<=Y.S.free->UK o.S.g xs->Cc (Y.j8 (Xw o.es W xs i)) (oc L W i) mt->Sq (Y.j8 (Xw o.es W xs i)) ->
 Ok (Ie (Ag TT disp K d false) (Ag TT disp K d true) K f (.ptr B.c 0) v (I o.nx) s v (I W.length) (I i) u) fun v h'=>v=I 0/\Bup h h' B X F o L W:=by
 intro f;induction f with
 | zero=>intro i u Y s q xs mt hf;omega
 | succ f ih=>
  intro i u Y s q xs mt hf hi b7 c1 C1 hq U P eE V ae H af eN eF mo cc sq;rw[Ie];simp only[I,Ac];have a0:∀j,F j->j<u.next:=fun j hj=>c1.C.M.lt _ (.inl hj)
  by_cases G:i<W.length
  ·have:decide ((i:Int)<(W.length:Int))=true:=by simp;omega
   simp only[this,Aa,MS];rw[U.at G];have wf:=U.wf _ (bH G);have wh:=hw _ (bH G);have wb:fB W i=W[i].block.toNat/\fY W i=W[i].bytes:=by unfold fB fY;rw[aD G];exact⟨rfl,rfl⟩
   generalize W[i]=w at wf wh wb⊢;obtain⟨wb,wy⟩:=wb;have wl:=Wr.len wf;unfold j9 at wh;simp only[aS,aV]at wh
   try simp only[Aa]
   rw[xj];refine Ok.mk rfl wl fun h3 x3 e3 _=>?_
   rw[U.Hg]
   try simp only[Aa]
   rw[Ai e3 rfl (v:=I w.block) rfl]
   try simp only[Aa]
   rw[Cn e3 rfl (show Og w.cells 1 32=some (Bj w.bytes) by
    rw[Fx (by omega)];unfold Wr.cells;rw[List.drop_succ_cons,dF,bS (by rw[Bg,wf.1];omega)])]
   have fe:=EL 1 o.nx W.length w.block wf.1;rw[<-En.H6]at fe;rw[show(EV.int .i64 1)=I 1 from rfl,show(EV.int .i64 o.nx)=I o.nx from rfl,Ax fe];have C3:=(C1.Y8 x3).C;have ek:EOk ⟨1,o.nx,W.length,w.block,0,0,w.bytes⟩ Y.ep Y.nx:=by
    rw[H,aw,eN];exact Bkw (by omega) (by omega) (by omega) (by omega) (by omega) (by omega) (by omega) (by omega)
   have p0:=Bs9 A hK hd (⟨wf.1,wf.2⟩:(⟨1,o.nx,W.length,w.block,0,0,w.bytes⟩:En).Wf) C3 cc ek (by omega) (by omega);refine Ok.Am p0 ?_;rintro _ h4 ⟨x,Z,ag,rfl,c4,cz,pt,eZ⟩;have J:Ee u h4 B Y (fun j=>F j\/(0<xs.length/\j=q)) Z:=(C1.Y8 x3).trans c4;have ah:Ee h h4 B X F Z:=c1.trans (J.less fun j=>.inl);have rg:=pt.rg;simp only[Aa];refine Ok.mk rfl rfl fun h5 x5 e5 _=>?_
   have O:=ah.trans (ah.C.Y8 x5);have Q:=J.trans (J.C.Y8 x5);have ai:∀j,(F j\/(0<xs.length/\j=q))->j<u.next->h5.get j=u.get j:=fun j hj l=>Q.k.get _ l fun y=>y hj
   simp only[I,Ac,aB,aA,Aa,MR];rw[Cn e5 rfl (Aj (n:=6) rfl)];have aj:=P.row.frame (h':=h5) fun y=>ai _ (.inr ⟨y,rfl⟩) (c1.hb _ _ (P.row.block y))
   have al:=O.hb;refine Md (z:=[.int .i64 0,.int .i64 0,.int .i64 0,.int .i64 0,.int .i64 0,.int .i64 0]) (v:=.agg x.cells) aj al rfl rfl rfl (by omega) (by omega) fun h6 aq cx c6=>?_
   have a2:=c6.hb al;have C6:=Q.C.tR c6 (fun j hj hl=>.inr ⟨hj.1,hj.2⟩) a2;have a3:C0 h6 B Z (fun j=>F j\/(0<(xs++[x]).length/\j=h5.next+1)):=C6.less fun j hj=>by
    rcases hj with hj|⟨_,rfl⟩
    ·exact .inl (.inl hj)
    ·exact .inr ⟨by omega,by omega⟩
   have au:Kf F h5 h6:=c6.mono fun j hj y=>by
    have a:=ad j y;have b:=hq hj.1;have e:=hj.2;omega
   have a4:Ee h h6 B X F Z:=O.trans ⟨C6.less fun j hj=>.inl (.inl hj),au,Ck.refl _⟩;have a5:∀j,F j->h6.get j=u.get j:=fun j hj=>by
    have l:=a0 j hj;have l5:=aN l Q.k.next
    rw[au.get _ l5 (fun y=>y hj)];exact ai _ (.inl hj) l
   simp only[MQ,Ac];rw[Cl,show((i:Nat):Int)+1=((i+1:Nat):Int) by omega];have lx:(xs++[x]).length=xs.length+1:=by simp
   have bu:=O.k.next
   have ll:=pt.lv (by show ¬(1:Int)=2;decide);have pg:Z.S.g=Y.S.g:=pt.g;have pn:Z.gen=Y.gen/\Z.ep=Y.ep/\Z.nx=Y.nx+1/\Z.st=Y.st:=pt.nm;have pf:Y.S.free-1<=Z.S.free:=pt.free;have ps:x.seq=Y.nx:=pt.sq;have sl:=zm o.es W xs i;have jl:fB W i<(Xw o.es W xs i).length:=by rw[sl,wb];omega
   have cs:=Cc.set cz (j:=fB W i) jl (x:=x) (bs:=w.bytes) (.inr ll) (by show x.seq<Z.nx;omega);have mx:meR o.S.g x=true:=by
    have:=ll.meR;rw[show((Z.j8 (Xw o.es W xs i)).S.g)=Z.S.g from rfl,pg,V]at this;exact this
   have ex:Xw o.es W (xs++[x]) (i+1)=(Xw o.es W xs i).set (fB W i) x:=by
    show(Xw o.es W (xs++[x]) i).set (fB W i) (fX (xs++[x]) i)=_;rw[UJ _ _ _ _ _ (by omega)];congr 1;unfold fX;rw[bU (by omega),show i-xs.length=0 by omega];rfl
   have a7:oc L W (i+1)=(oc L W i).set (fB W i) w.bytes:=by
    show(oc L W i).set (fB W i) (fY W i)=_;rw[wy]
   have a8:Cc (Z.j8 (Xw o.es W (xs++[x]) (i+1))) (oc L W (i+1)) ag:=by rw[ex,a7];exact cs
   have a9:Sq (Z.j8 (Xw o.es W (xs++[x]) (i+1))):=by
    rw[ex];refine Sq.set (X:=Y.j8 (Xw o.es W xs i)) sq cc.sq rfl fun _=>?_
    show Y.nx<=x.seq;omega
   have:=ih (i+1) h6 Z (.slice (h5.next+1) 0 (xs.length+1) (xs.length+1) true) (h5.next+1) (xs++[x]) ag (by omega) (by omega) (by omega) a4 a3 (fun _=>by omega) (U.frame fun y=>a5 _ (fb y)) ⟨by rw[lx,cR,dW,show([x].map Me.cells).flatten=(EV.agg x.cells).cells by simp[EV.cells]];exact aq,fun z E=>by
    rcases bR.1 E with E|E
    ·exact P.rng z E
    ·rw[aP.1 E];exact rg⟩ (eZ.trans eE) (pg.trans V) (pn.1.trans ae) (pn.2.1.trans H) (pn.2.2.2.trans af) (by omega) (by omega) (fun z E=>by
    rcases bR.1 E with E|E
    ·exact mo z E
    ·rw[aP.1 E];exact mx) a8 a9
   exact this
  ·have:decide ((i:Int)<(W.length:Int))=false:=by simp;omega
   simp only[this,Aa,Vs];rw[U.Hg];have ei:i=W.length:=by omega
   have bb:∀w∈W,j9 Y.S.g w=true:=by rw[V];exact hw
   have ws:=A9i A hK (X:=Y) (F:=fun j=>F j\/(0<xs.length/\j=q)) (v:=v) (b:=b) (W:=W) (fun y=>.inl (fb y)) hL (d:=d) (s:=s) (q:=q) (xs:=xs) (by omega) (fun y=>.inr ⟨y,rfl⟩) Y (by rw[V];exact mo) bb (by rw[eE,V];exact hb.1) K 0 u Y (by omega) (by omega) (Ee.refl C1) U P rfl;refine Ok.mono ws ?_;rintro _ h2 ⟨rfl,c2⟩;subst ei;rw[eE]at c2;exact⟨rfl,_,mt,c1.trans (c2.less fun j=>.inl),cc,sq,V,ae,H,af,eN,eF⟩
end
end
theorem Bn1{W:List Wr}:n_ g W=true↔(∀w∈W,j9 g w=true)/\1<=W.length/\W.length<=4:=by
 unfold n_;simp only[aS,dV,aV];constructor
 ·rintro⟨a,b,c⟩;exact⟨a,by omega,by omega⟩
 ·rintro⟨a,b,c⟩;exact⟨a,by omega,by omega⟩
theorem A5n(A:Bv disp)(hK:3000000<K){L:List (List Nat)}{W:List Wr}(fb:0<W.length->F b)(hL:W.length<=2000000)(hd:28<=d)(C:C0 h B X F)(J:Jc X L mt)(hg:X.gen+1100<=281474976710655)(o:X.nx+70000<=281474976710655)(E:jS h v b W):
 Ok (Ag TT disp K d false 45 [.ptr B.c 0,v] h) fun v h'=>∃(e:Int) (Y:Co) (G:List (List Nat)) (mt':Int->Int),v=I e/\Ee h h' B X F Y/\Jc Y G mt'/\jd X Y /\
 ((n_ X.S.g W=false/\e=13/\Y=X/\G=L)\/(n_ X.S.g W=true/\e=0/\G=oc L W W.length/\(X.S.g.E5<=X.prs->Y.gen=X.gen/\Y.nx=X.nx+W.length))):=by
 obtain⟨e,rfl⟩:∃k,d=k+1:=⟨d-1,by omega⟩;rw[Arp A (by omega)];simp only[MV,Xy,Aa];rw[E.Hg];refine Ok.Am (A9f (K:=K) fb hL K 0 h (by omega) (by omega) (by simp) C E) ?_;rintro _ h2 ⟨rfl,V⟩;have c2:=C.Y8 V;cases hok:n_ X.S.g W with
 | false=>
  simp only[Aa];exact .ret ⟨13,X,L,mt,rfl,c2,J,jd.refl X,.inl ⟨by trivial,rfl,rfl,rfl⟩⟩
 | true=>
 obtain⟨hw,aa,H⟩:=Bn1.1 hok;simp only[Aa,MU];refine Ok.Am (UD A (by omega) c2.C J.c J.sq J.fr (by omega) (by omega) (d:=e)) ?_;rintro _ Q ⟨rfl,Y,mt',c3,O,sy,r⟩;have a:=c2.trans c3;have mu:=r.UF O;have s0:=J.c.c.sm.s0;have b1:=J.c.c.sm.b1;have b0:=J.c.c.sm.b0;have tn:=r.t.nx;have ad:=r.t.gen;have U:=O.nm;have u:=r.t.g;have lb:=J.c.lb;simp only[I,Ac,aB,aA,Aa,MT];rw[a.C.kC];have W3:jS Q v b W:=E.frame fun y=>a.k.get _ (C.M.lt _ (.inl (fb y))) fun w=>w (fb y)
 rw[W3.Hg];refine(A9u A (by omega) (F:=F) (h:=h) fb H (L:=L) (d:=e) (by omega) (fun j hj=>C.M.lt _ (.inl hj)) Y U.2.2 U.2.1 (by rw[u];exact hw) (by rw[u,r.t.len];omega) (by omega) (by omega) K 0 Q Y .Aq 0 [] mt' (by omega) (by omega) rfl a (a.C.less fun j hj=>hj.elim id fun y=>absurd y.1 (bN 0)) (fun y=>absurd y (bN 0)) W3 ⟨Cd.nil _ _ _ _,fun x o=>by cases o⟩ rfl rfl rfl rfl rfl (by simp) (by omega) (fun x o=>by cases o) O sy).mono ?_;rintro _ h4 ⟨rfl,Z,P,c4,cz,sz,z1,z2,z3,z4,z5,z6⟩;refine⟨0,Z,_,P,rfl,c4,⟨cz,sz,by rw[z1,u];omega⟩,⟨z1.trans u,⟨z3.trans r.t.nm.1,z4.trans r.t.nm.2⟩,by omega,by omega⟩,.inr ⟨by trivial,rfl,rfl,fun hr=>?_⟩⟩;have:=r.same hr;subst this;exact⟨z2,z5⟩
section
section
variable{L:List (List Nat)}
theorem Jc.UL(J:Jc X L mt)(c:Cc Y L mt)(k:kO X Y):Jc Y L mt/\jd X Y:=by
 have f:=(k.free J.c).1;have g:=k.g;have n:=k.nm;have fr:=J.fr;exact⟨⟨c,J.sq.es k.es,by rw[g];omega⟩,⟨g,⟨n.2.1,n.2.2.2⟩,by omega,by omega⟩⟩
end
end
structure Gv(g:Gm)(S:Mi)(i:Nat):Prop where
 f:A8s S
 gg:S.g=g
 mem:∀d,d<g.D.toNat->∀x∈S.ps d,0<=x/\x<i/\Wy (Ff g) (Fh g) x=false
 all:∀z:Nat,z<i->Wy (Ff g) (Fh g) z=false->0<=Bp g z->(z:Int)∈S.ps (Bp g z).toNat
theorem Gv.step(v:Gv g S i):Gv g (S.ox (Ff g) (Fh g) i) (i+1):=by
 have s:Sm g:=by rw[<-v.gg];exact v.f.calm.sm
 unfold Mi.ox;cases J:Wy (Ff g) (Fh g) (i:Int)with
 | true=>
  rw[aI rfl];refine⟨v.f,v.gg,fun d hd x u=>?_,fun z H o C=>?_⟩
  ·have:=v.mem d hd x u;exact⟨this.1,by omega,this.2.2⟩
  ·rcases cb z i with y|y
   ·exact v.all z y o C
   ·have:z=i:=by omega
    subst this;rw[J]at o;cases o
 | false=>
  rw[aG (by decide)];have e:(S.iJ i).ps=(We g g.D.toNat S.ps i).2:=by show(We S.g S.g.D.toNat S.ps i).2=_;rw[v.gg]
  have fresh:=v.f.iJ i;have nm:∀d,d<g.D.toNat->(i:Int) ∉ S.ps d:=fun d hd hm=>by have:=v.mem d hd _ hm;omega
  have P:hasB S.ps g.D.toNat i=false:=by
   cases h:hasB S.ps g.D.toNat i with
   | false=>rfl
   | true=>
    obtain⟨d,hd,hm⟩:=Jf.1 h;exact absurd hm (nm d hd)
  by_cases G:Bp g i<0
  ·have e2:(S.iJ i).ps=S.ps:=by rw[e];unfold We;rw[aI G]
   refine⟨fresh,v.gg,fun d hd x u=>?_,fun z H o C=>?_⟩
   ·rw[e2]at u
    have:=v.mem d hd x u;exact⟨this.1,by omega,this.2.2⟩
   ·rw[e2]
    rcases cb z i with y|y
    ·exact v.all z y o C
    ·have:z=i:=by omega
     subst this;omega
  ·have E:(Bp g i).toNat<g.D.toNat:=by
    rcases Ip s (i:Int)with y|⟨_,y,_⟩<;>omega
   have len:(S.ps (Bp g i).toNat).length<g.Z.toNat:=by
    have nd:(S.ps (Bp g i).toNat++[(i:Int)]).Nodup:=by
     rw[List.nodup_append];refine⟨by have:=v.f.calm.nd _ (by rw[v.gg];exact E);exact this,by simp,fun a Q b hb y=>?_⟩;rw[aP.1 hb]at y;subst y;exact nm _ E Q
    have:=TJ s (d:=(Bp g i).toNat) nd fun w hw=>by
     rcases bR.1 hw with hw|hw
     ·have:=(v.f.calm.wf.ps (Bp g i).toNat (by rw[v.gg];exact E) w hw).1
      rw[v.gg]at this;exact this
     ·rw[aP.1 hw];omega
    rw[aF,List.length_singleton]at this;omega
   have H:=s.z0;have e2:(S.iJ i).ps=upd S.ps (Bp g i).toNat (S.ps (Bp g i).toNat++[(i:Int)]):=by
    rw[e];unfold We;rw[aG G,aG (by rw[P];decide),aI len]
   refine⟨fresh,v.gg,fun d hd x u=>?_,fun z H o C=>?_⟩
   ·rw[e2]at u
    unfold upd at u;split at u
    ·rename_i O
     rcases bR.1 u with u|u
     ·have:=v.mem _ E x u;exact⟨this.1,by omega,this.2.2⟩
     ·rw[aP.1 u];exact⟨by omega,by omega,J⟩
    ·have:=v.mem d hd x u;exact⟨this.1,by omega,this.2.2⟩
   ·rw[e2]
    unfold upd;rcases cb z i with y|y
    ·have m:=v.all z y o C
     split
     ·rename_i O
      rw[O]at m;exact List.mem_append_left _ m
     ·exact m
    ·have:z=i:=by omega
     subst this;rw[aI rfl];exact List.mem_append_right _ (aP.2 rfl)
theorem UN(a:rtB g=true):∀n,Gv g ((Mi.new g).jH (Ff g) (Fh g) n) n
 | 0=>⟨Bht a,rfl,fun d _ x o=>(by cases o),fun z u=>absurd u (cI _)⟩
 | n+1=>(UN a n).step
theorem Bn3(o:rtB g=true):∀i,i<3->Bp g (Ff g i)=i/\Bp g (Fh g i)=i/\¬Ff g i=Fh g i:=by
 have s:=Ja o;have C:=xn o;have:=s.d0;have:=s.p0;have:=s.z0;have d0:=Rn s (i:=0) (k:=0);have d1:=Rn s (i:=1) (k:=0);have d2:=Rn s (i:=2) (k:=0);have o0:=Rn s (i:=0) (k:=1);have o1:=Rn s (i:=1) (k:=1);have u:=Rn s (i:=2) (k:=1);intro i E;rcases(show i=0\/i=1\/i=2 by omega)with rfl|rfl|rfl
 ·have a:Ff g 0=0:=rfl
  have b:Fh g 0=1:=rfl;rw[a,b];refine⟨?_,?_,by decide⟩
  ·rw[<-d0];congr 1;omega
  ·rw[<-o0];congr 1;omega
 ·have a:Ff g 1=g.Z:=rfl
  have b:Fh g 1=g.Z+1:=rfl;rw[a,b];refine⟨?_,?_,by omega⟩
  ·rw[<-d1];congr 1;omega
  ·rw[<-o1];congr 1;omega
 ·have a:Ff g 2=2*g.Z:=rfl
  have b:Fh g 2=2*g.Z+1:=rfl;rw[a,b];refine⟨?_,?_,by omega⟩
  ·rw[<-d2];congr 1;omega
  ·rw[<-u];congr 1
def pC(g:Gm):List (List Nat):=List.replicate g.B.toNat (List.replicate 32 0)
theorem Blq(H:rtB g=true):Jc (Co.start g) (pC g) (fun _=>-1):=by
 have s:=Ja H;have v:=UN H (g.D*g.Z).toNat;have V:(Co.start g).S=(Mi.new g).jH (Ff g) (Fh g) (g.D*g.Z).toNat:=rfl;rw[<-V]at v;have ar:=Bn3 H;have E:(Co.start g).S.g=g:=v.gg;have hF:∀z,arB (Co.start g) z->Wy (Ff g) (Fh g) z=true:=fun z ⟨i,C,h⟩=>by
  obtain⟨a,b,_⟩:=ar i C;refine vL.2 ⟨i,C,?_⟩;have Q:∀w:Int,Bp g w=i->¬w = -1:=fun w hw y=>by
   have:=Iq s (z:=w);omega
  exact h.imp (fun y=>⟨Q _ a,y⟩) fun y=>⟨Q _ b,y⟩
 have c:Cc (Co.start g) (pC g) (fun _=>-1):=by
  refine⟨v.f.calm,rfl,fun i C=>by rw[E];exact ar i C,fun z u=>?_,fun i _=>?_,fun h=>absurd v.f.cl.1 h,?_,?_,fun b x bs G hl=>?_,fun x G=>?_,⟨cO _,rfl,cO _⟩,.inl rfl⟩
  ·have o:=hF z u
   have z0:0<=z:=by
    obtain⟨i,C,h⟩:=u;obtain⟨a,b,_⟩:=ar i C;rcases h with h|h
    ·exact Iq s (by rw[h,show(Co.start g).cur i=Ff g i from rfl];omega)
    ·exact Iq s (by rw[h,show(Co.start g).Br i=Fh g i from rfl];omega)
   refine⟨by rw[v.f.cl.1];omega,by rw[v.f.cl.2];omega,fun d hd hm=>?_,by rw[v.f.zs];decide⟩;rw[E]at hd;have:=(v.mem d hd z hm).2.2;rw[o]at this;cases this
  ·rw[v.f.zs];exact⟨by decide,fun _=>rfl⟩
  ·show(pC g).length=(List.replicate g.B.toNat (Me.nil 0)).length
   unfold pC;simp
  ·rw[E];show(List.replicate g.B.toNat (Me.nil 0)).length=_;simp
  ·have o:x=Me.nil 0:=bO (bc (show(List.replicate g.B.toNat (Me.nil 0))[b]? = some x from G))
   have h2:bs=List.replicate 32 0:=bO (bc (show(List.replicate g.B.toNat (List.replicate 32 0))[b]? = some bs from hl));exact .inl ⟨o,h2⟩
  ·have o:x=Me.nil 0:=bO (show x∈List.replicate g.B.toNat (Me.nil 0)from G)
   rw[o];show(0:Int)<1;decide
 refine⟨c,fun b b' x x' G _ o=>?_,?_⟩
 ·have e:x=Me.nil 0:=bO (bc (show(List.replicate g.B.toNat (Me.nil 0))[b]? = some x from G))
  rw[e]at o;cases o
 ·have nc:∀z,(Co.start g).closed z=true->False:=fun z u=>by
   obtain⟨a,b⟩:=c.rng u;obtain⟨U,_,_,_,a5,J⟩:=E0.1 u;rw[E]at b U J;have O:Wy (Ff g) (Fh g) z=false:=a5;have m:=v.all z.toNat (by omega) (by rw[show((z.toNat:Nat):Int)=z by omega];exact O) (by rw[show((z.toNat:Nat):Int)=z by omega];exact U);rw[show((z.toNat:Nat):Int)=z by omega]at m;have P:(Bp g z).toNat<g.D.toNat:=by
    rcases Ip s z with y|⟨_,y,_⟩<;>omega
   rw[Jf.2 ⟨_,P,m⟩]at J;cases J
  have p:=c.TZ fun z u=>(nc z u).elim
  have q:=c.T'.1;have s0:=s.s0;have d0:=s.d0;have p0:=s.p0;rw[E]at p q⊢;have af:4<=g.E5:=by
   have:=dX (show 0<=g.D by omega) p0;unfold Gm.E5;omega
  have:g.S*4<=g.S*Ft (Co.start g).S.ps g.D.toNat:=bT (by omega) (by omega);omega
end Go.Ev
