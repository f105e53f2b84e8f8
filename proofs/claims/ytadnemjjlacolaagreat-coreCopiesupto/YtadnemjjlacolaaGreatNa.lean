import Derived.Test.YtadnemjjlacolaaGreatVb
import Derived.Test.YtadnemjjlacolaaGreatCa
import Derived.Test.YtadnemjjlacolaaGreatCc
import Derived.Test.YtadnemjjlacolaaGreatCb
set_option linter.all false
namespace Go.Ev
open Go.Proofs
set_option maxRecDepth 100000
variable {ps ps':Nat->List Int}{K d k n:Nat}{g:Gm}{p:Nat->Bool}{f By cur:Nat->Int}{S T:Mi}{F W:Nat->Prop}{X:Co}{mt:Int->Int}{L:List (List Nat)}{D:Lk}{h:Ab}{disp:Nat->Option FT}
theorem Ayc(ps:Nat->List Int)(Sx:Int)(n:Nat):(Ew ps Sx n = -1->∀d,d<n->(d:Int)=Sx)/\(0<=Ew ps Sx n->Ew ps Sx n<n/\¬Ew ps Sx n=Sx/\∀d,d<n->¬(d:Int)=Sx->(ps d).length<=(ps (Ew ps Sx n).toNat).length):=by
 rcases Avd ps Sx n with⟨a,b⟩|⟨j,e,i,a4⟩
 ·exact⟨fun _=>b,fun y=>by omega⟩
 ·exact⟨fun y=>by omega,fun _=>⟨e,i,fun d hd hb=>(a4 d hd).resolve_left hb⟩⟩
theorem Aez(e:0<n)(k:Int):k<=F7 ps n↔2*k<=Qq ps n/\∀d,d<n->k+(ps d).length<=Qq ps n:=by
 obtain⟨i1,i2⟩:=Ayc ps (-1) n;obtain⟨b1,b2,b3⟩:=A4v ps (-1) n;have a:0<=Ew ps (-1) n:=by
  rcases b3 with y|y
  ·have:=i1 y 0 e;omega
  ·exact y
 obtain⟨i,q,j⟩:=i2 a;have o:Aup ps n (Ew ps (-1) n)=(ps (Ew ps (-1) n).toNat).length:=by
  unfold Aup;rw[aG ⟨a,i⟩]
 unfold F7;rw[o];constructor
 ·intro h
  refine⟨by omega,fun d hd=>?_⟩;have:=j d hd (by omega);omega
 ·rintro⟨u,h2⟩
  have:=h2 (Ew ps (-1) n).toNat (by omega);omega
theorem Auu {ps:Nat->List Int}{d:Nat}{l:List Int}:∀n,(Qq (upd ps d l) n:Int)=Qq ps n+(if d<n then(l.length:Int)-(ps d).length else 0)
 | 0=>by unfold Qq;simp
 | n+1=>by
  rw[Ky,Ky];have ih:=Auu (ps:=ps) (d:=d) (l:=l) n;by_cases h:n=d
  ·subst h
   rw[aF (bS _)]at ih;rw[aG (aL _),show upd ps n l n=l from aG rfl];omega
  ·rw[show upd ps d l n=ps n from aF h]
   by_cases h2:d<n
   ·rw[aG h2]at ih;rw[aG (by omega)];omega
   ·rw[aF h2]at ih;rw[aF (by omega)];omega
theorem A5u {ps:Nat->List Int}{a b c:Nat}(e:a≠b)(i:a≠c)(j:b≠c):∀n,a<n->b<n->c<n->(ps a).length+(ps b).length+(ps c).length<=Qq ps n
 | 0,h,_,_=>absurd h (br _)
 | n+1,u,hb,v=>by
  rw[Ky];by_cases o:a=n
  ·subst o;have:=Ayy (ps:=ps) j a (by omega) (by omega);omega
  ·by_cases h2:b=n
   ·subst h2;have:=Ayy (ps:=ps) i b (by omega) (by omega);omega
   ·by_cases q:c=n
    ·subst q;have:=Ayy (ps:=ps) e c (by omega) (by omega);omega
    ·have:=A5u (ps:=ps) e i j n (by omega) (by omega) (by omega);omega
theorem A0i:∀n,(∀d,d<n->(ps d).length<=(ps' d).length)->Qq ps n<=Qq ps' n
 | 0,_=>aE _
 | n+1,h=>by
  rw[Ky,Ky];have:=A0i n fun d hd=>h d (by omega)
  have:=h n (aL _);omega
theorem Aw9:∀n,d<n->(∀e,e<n->(ps e).length<=(ps' e).length)->Qq ps n+(ps' d).length<=Qq ps' n+(ps d).length
 | 0,h,_=>absurd h (br _)
 | n+1,hd,h=>by
  rw[Ky,Ky];rcases cL.1 hd with y|y
  ·have:=Aw9 n y fun e he=>h e (by omega)
   have:=h n (aL _);omega
  ·subst y
   have:=A0i (ps:=ps) (ps':=ps') d fun e he=>h e (by omega)
   omega
theorem Bge{x y:Int}{P:Int->Prop}(s:Sm g)(w:∀d,d<g.D.toNat->∀x∈ps d,Bu g x=d/\P x)(h:Aj8 ps g.D.toNat=some (x,y,ps')):F7 ps g.D.toNat-1<=F7 ps' g.D.toNat:=by
 obtain⟨a,b,q,hb,j,v,B,u,C,fb,_,_⟩:=Aoi w h;have:=s.d0;obtain⟨_,E⟩:=Ayc ps (-1) g.D.toNat;obtain⟨_,G⟩:=Ayc ps a g.D.toNat;have o:=(E (by omega)).2.2;have mb:=(G (by omega)).2.2;rw[C]at o;rw[fb]at mb;simp only[aZ]at o mb;have H:(ps a).length=(ps' a).length+1:=by rw[v];rfl
 have lb:(ps b).length=(ps' b).length+1:=by rw[B];rfl
 have e:∀d,(ps' d).length=(upd (upd ps a (ps' a)) b (ps' b) d).length:=fun d=>by
  unfold upd;by_cases i:d=b
  ·rw[aG i,i]
  ·rw[aF i]
   by_cases h2:d=a
   ·rw[aG h2,h2]
   ·rw[aF h2,u d h2 i]
 have es:Qq ps' g.D.toNat=Qq (upd (upd ps a (ps' a)) b (ps' b)) g.D.toNat:=by
  unfold Qq;congr 1;apply cj;intro d _;exact e d
 have s1:=Auu (ps:=upd ps a (ps' a)) (d:=b) (l:=ps' b) g.D.toNat;have s2:=Auu (ps:=ps) (d:=a) (l:=ps' a) g.D.toNat;rw[show upd ps a (ps' a) b=ps b from aF (cV j),aG hb]at s1;rw[aG q]at s2;obtain⟨p1,p2⟩:=(Aez (ps:=ps) (n:=g.D.toNat) (by omega) _).1 (cb (F7 ps g.D.toNat));refine(Aez (by omega) _).2 ⟨by omega,fun d hd=>?_⟩;have J:=p2 d hd;by_cases i:d=a
 ·subst i;omega
 ·by_cases h2:d=b
  ·subst h2;omega
  ·rw[u d i h2]
   have m1:=o d hd (by omega);have m2:=mb d hd (by omega);have O:(ps a).length+(ps b).length+(ps d).length<=Qq ps g.D.toNat:=A5u j (cV i) (cV h2) _ q hb hd;omega
theorem Bfl(a:0<n)(h:∀d,d<n->(ps d).length<=(ps' d).length):F7 ps n<=F7 ps' n:=by
 obtain⟨p1,p2⟩:=(Aez (ps:=ps) a _).1 (cb (F7 ps n));refine(Aez a _).2 ⟨?_,fun d hd=>?_⟩
 ·have:=A0i n h;omega
 ·have:=Aw9 n hd h;have:=p2 d hd;omega
def cn(p:Nat->Bool):Nat->Nat
 | 0=>0
 | n+1=>cn p n+(if p n=true then 1 else 0)
theorem Bdn {q:Nat->Bool}:∀n,(∀z,z<n->p z=true->q z=true)->cn p n<=cn q n
 | 0,_=>aE _
 | n+1,h=>by
  have e:=Bdn n fun z i=>h z (by omega)
  have:=h n (aL _);unfold cn;split<;>split
  all_goals first|omega|(rename_i a b;exact absurd (this a) b)
theorem Az2 {p q:Nat->Bool}:∀n,cn (fun z=>p z||q z) n<=cn p n+cn q n
 | 0=>aE _
 | n+1=>by
  have ih:=Az2 (p:=p) (q:=q) n;unfold cn;cases p n<;>cases q n<;>simp<;>omega
theorem A9b:∀n,(∀z,z<n->p z=true)->cn p n=n
 | 0,_=>rfl
 | n+1,h=>by
  unfold cn;rw[A9b n fun z a=>h z (by omega),aG (h n (aL _))]
theorem Bp6(a:Int):∀n:Nat,cn (fun z=>decide ((z:Int)=a)) n<=if a<n then 1 else 0
 | 0=>by unfold cn;omega
 | n+1=>by
  have e:=Bp6 a n;unfold cn;by_cases h:(n:Int)=a
  ·rw[aG (aM h),aG (by omega)]
   rw[aF (by omega)]at e;omega
  ·rw[aF (by simpa using h)]
   split at e<;>split<;>omega
theorem Ajd(n:Nat):∀l:List Int,cn (fun z=>decide ((z:Int)∈l)) n<=l.length
 | []=>by
  have:cn (fun z=>decide ((z:Int)∈([]:List Int))) n<=cn (fun _=>false) n:=Bdn n fun z _ h=>by simp at h
  have z:∀n,cn (fun _=>false) n=0:=fun n=>by induction n with
   | zero=>rfl
   | succ n e=>unfold cn;rw[e];rfl
  rw[z]at this;exact this
 | a::l=>by
  have e:=Ajd n l;have j:cn (fun z=>decide ((z:Int)∈a::l)) n<=cn (fun z=>decide ((z:Int)=a)||decide ((z:Int)∈l)) n:=Bdn n fun z _ h=>by
   simp only[aQ,bU]at h;simp only[dT,aQ];exact h
  have h2:=Az2 (p:=fun z=>decide ((z:Int)=a)) (q:=fun z=>decide ((z:Int)∈l)) n;have i:=Bp6 a n;rw[bH];split at i<;>omega
def sw(f:Nat->Int):Nat->Int
 | 0=>0
 | n+1=>sw f n+f n
theorem Bqj {k:Nat->Int}:∀n,sw (fun z=>f z+k z) n=sw f n+sw k n
 | 0=>rfl
 | n+1=>by unfold sw;rw[Bqj n];omega
theorem Bvj(x:Me)(n:Nat):sw (fun z=>Aas (z:Int) x) n<=2:=by
 have key:∀n,sw (fun z=>Aas (z:Int) x) n<=(cn (fun z=>decide ((z:Int)∈[x.Aj,x.Ba])) n:Nat):=fun n=>by
  induction n with
  | zero=>exact cb _
  | succ n e=>
   unfold sw cn Aas;split
   ·rename_i h
    rw[aG (by simp only[aQ,bU,List.not_mem_nil,or_false];rcases h.2 with y|y;exact .inl y.symm;exact .inr y.symm)];unfold Aas at e;omega
   ·unfold Aas at e;split<;>omega
 have a:=key n;have b:=Ajd n [x.Aj,x.Ba];have:([x.Aj,x.Ba]:List Int).length=2:=rfl;omega
theorem Bib:∀(es:List Me) (n:Nat),sw (fun z=>La es (z:Int)) n<=2*es.length
 | [],n=>by
  have:∀n,sw (fun z=>La [] (z:Int)) n=0:=fun n=>by
   induction n with
   | zero=>rfl
   | succ n a=>unfold sw;rw[a];rfl
  rw[this];simp
 | x::es,n=>by
  have a:=Bib es n;have e:(fun z:Nat=>La (x::es) (z:Int))=fun(z:Nat)=>Aas (z:Int) x+La es (z:Int):=by funext z;rfl
  rw[e,Bqj,bH];have:=Bvj x n;omega
theorem Btm{k:Int}(h0:∀z,0<=f z):∀n,(∀z,z<n->p z=true->k<=2*f z)->k*(cn p n:Nat)<=2*sw f n
 | 0,_=>by unfold cn sw;simp
 | n+1,h=>by
  have a:=Btm h0 n fun z e=>h z (by omega)
  have:=h n (aL _);have:=h0 n;unfold cn sw;split
  ·rename_i hp
   have:=h n (aL _) hp;rw[Int.natCast_add,Int.mul_add];simp;omega
  ·simp;omega
theorem A31(ps:Nat->List Int):∀n,((List.range n).flatMap ps).length=Qq ps n
 | 0=>rfl
 | n+1=>by rw[dA,List.flatMap_append,aH,A31 ps n,Ky];simp
theorem Bl3(ps:Nat->List Int)(d:Nat):∀n,((List.range n).flatMap fun e=>if e=d then[]else ps e).length=Qq (upd ps d []) n:=fun n=>A31 (upd ps d []) n
theorem Bb9(E:rtB g=true){closed:Int->Bool}{es:List Me}{ar op:List Int}(la:ar.length<=6)(lo:op.length<=2)(J:∀d:Nat,d<g.D.toNat->(ar.filter fun z=>decide (¬Bu g z=d)).length<=2*(g.D-1).toNat)
 (cover:∀z:Int,0<=Bu g z->closed z=true\/z∈ps (Bu g z).toNat\/z∈ar\/z∈op) (full:∀z,closed z=true->g.S<2*La es z) (O:es.length=g.B.toNat) (few:F7 ps g.D.toNat<g.De):False:=by
 have s:=Nw E;have:=s.d0;have:=s.d1;have:=s.z0;have:=s.z1;have:=s.s0;have:=s.b0;have:=s.p0;have sg:2*g.B<=g.S*g.segments:=by
  unfold rtB at E;simp only[aR,aQ]at E;exact E.2.2
 obtain⟨N,hN⟩:=aY (dP (show 0<=g.D by omega) (show 0<=g.Z by omega));have C:∀z:Nat,z<N->0<=Bu g z/\Bu g z<g.D:=fun z u=>by
  rcases Ko s z with y|⟨a,b,_⟩
  ·unfold Bu at y
   rw[aF (by omega)]at y;have:0<=(z:Int)/g.Z:=Int.ediv_nonneg (by omega) (by omega);omega
  ·exact⟨a,b⟩
 have small:∀p:Nat->Bool,(∀z,z<N->p z=true->closed (z:Int)=true)->2*g.segments<=(cn p N:Nat)->False:=fun p hp Q=>by
  have h1:=Btm (p:=p) (f:=fun z=>La es (z:Int)) (k:=g.S+1) (fun z=>(Akx _ es).1) N fun z u y=>by have:=full z (hp z u y);omega
  have h2:=Bib es N;rw[O]at h2;have h3:(g.S+1)*(2*g.segments)<=(g.S+1)*(cn p N:Nat):=bT Q (by omega);have h4:(g.S+1)*(2*g.segments)=2*(g.S*g.segments)+2*g.segments:=by rw[Int.add_mul,Int.mul_left_comm];omega
  have h5:0<g.segments:=by
   rcases gJ 0 g.segments with y|y
   ·exact y
   ·have:=dP (show 0<=g.S by omega) (show 0<=-g.segments by omega)
    rw[Int.mul_neg]at this;omega
  omega
 have hs:2*g.segments<=g.least-2-2*(g.D*g.P):=by unfold Gm.segments;omega
 have U:0<=g.D*g.P:=dP (by omega) (by omega);have hP:g.P<=g.D*g.P:=by have:=fC (show 1<=g.D by omega) (show 0<=g.P by omega);omega
 have e1:g.D*(g.Z-g.P-2)=g.D*g.Z-g.D*g.P-2*g.D:=by rw[Int.mul_sub,Int.mul_sub];omega
 have e2:(g.D-1)*(g.Z-g.P-2)=g.D*g.Z-g.D*g.P-2*g.D-(g.Z-g.P-2):=by rw[Int.sub_mul,e1];omega
 have n0:¬(g.De<=F7 ps g.D.toNat):=by omega
 rw[Aez (by omega)]at n0;by_cases c1:2*g.De<=Qq ps g.D.toNat
 ·
  obtain⟨d,hd,hc⟩:∃d,d<g.D.toNat/\(Qq ps g.D.toNat:Int)<g.De+(ps d).length:=by
   rcases fN (∃d,d<g.D.toNat/\(Qq ps g.D.toNat:Int)<g.De+(ps d).length)with y|y
   ·exact y
   ·refine absurd ⟨c1,fun d hd=>?_⟩ n0
    rcases gJ (Qq ps g.D.toNat:Int) (g.De+(ps d).length)with z|z
    ·exact absurd ⟨d,hd,z⟩ y
    ·exact z
  let p:Nat->Bool:=fun z=>closed (z:Int)&&decide (¬Bu g z=d)
  let v:List Int:=(List.range g.Z.toNat).map fun(k:Nat)=>(d:Int)*g.Z+k
  let i:=(List.range g.D.toNat).flatMap fun e=>if e=d then[]else ps e
  let j:=ar.filter fun z=>decide (¬Bu g z=d)
  have all:cn (fun z=>p z||(decide ((z:Int)∈v)||(decide ((z:Int)∈i)||(decide ((z:Int)∈j)||decide ((z:Int)∈op))))) N=N:=A9b N fun z u=>by
   obtain⟨d0,d1⟩:=C z u;simp only[dT,aQ];by_cases o:Bu g z=d
   ·refine .inr (.inl (bc.2 ⟨((z:Int)%g.Z).toNat,dG.2 ?_,?_⟩))
    ·have:=Int.emod_lt_of_pos (z:Int) (show 0<g.Z by omega)
     have:=Int.emod_nonneg (z:Int) (show g.Z≠0 by omega);omega
    ·rcases Ko s z with y|⟨_,_,y,_⟩
     ·omega
     ·have:=Int.emod_nonneg (z:Int) (show g.Z≠0 by omega)
      have:=Int.mul_ediv_add_emod (z:Int) g.Z;rw[<-o,y,Int.mul_comm];omega
   ·rcases cover z d0 with y|y|y|y
    ·exact .inl (by show(closed (z:Int)&&decide (¬Bu g z=d))=true;rw[y,aM o];rfl)
    ·refine .inr (.inr (.inl (List.mem_flatMap.2 ⟨(Bu g z).toNat,dG.2 (by omega),?_⟩)))
     rw[aF (by omega)];exact y
    ·exact .inr (.inr (.inr (.inl (dU.2 ⟨y,aM o⟩))))
    ·exact .inr (.inr (.inr (.inr y)))
  have o1:=Az2 (p:=p) (q:=fun z=>decide ((z:Int)∈v)||(decide ((z:Int)∈i)||(decide ((z:Int)∈j)||decide ((z:Int)∈op)))) N;have V:=Az2 (p:=fun z:Nat=>decide ((z:Int)∈v)) (q:=fun z=>decide ((z:Int)∈i)||(decide ((z:Int)∈j)||decide ((z:Int)∈op))) N;have Y:=Az2 (p:=fun z:Nat=>decide ((z:Int)∈i)) (q:=fun z=>decide ((z:Int)∈j)||decide ((z:Int)∈op)) N;have o4:=Az2 (p:=fun z:Nat=>decide ((z:Int)∈j)) (q:=fun z=>decide ((z:Int)∈op)) N;have m0:=Ajd N v;have m1:=Ajd N i;have m2:=Ajd N j;have m3:=Ajd N op;have l0:v.length=g.Z.toNat:=by simp[v]
  have l1:i.length=Qq (upd ps d []) g.D.toNat:=Bl3 ps d _;have l2:j.length<=2*(g.D-1).toNat:=J d hd;have H:=Auu (ps:=ps) (d:=d) (l:=[]) g.D.toNat;rw[aG hd]at H;simp only[fM]at H;refine small p (fun z _ y=>(aR _ _▸y).1) ?_;have G:g.least<=(g.D-1)*(g.Z-g.P-2)-g.De+1:=by unfold Gm.least;omega
  omega
 ·
  let p:Nat->Bool:=fun z=>closed (z:Int)
  let i:=(List.range g.D.toNat).flatMap ps
  have all:cn (fun z=>p z||(decide ((z:Int)∈i)||(decide ((z:Int)∈ar)||decide ((z:Int)∈op)))) N=N:=A9b N fun z u=>by
   obtain⟨d0,d1⟩:=C z u;simp only[dT,aQ];rcases cover z d0 with y|y|y|y
   ·exact .inl y
   ·exact .inr (.inl (List.mem_flatMap.2 ⟨(Bu g z).toNat,dG.2 (by omega),y⟩))
   ·exact .inr (.inr (.inl y))
   ·exact .inr (.inr (.inr y))
  have o1:=Az2 (p:=p) (q:=fun z=>decide ((z:Int)∈i)||(decide ((z:Int)∈ar)||decide ((z:Int)∈op))) N;have V:=Az2 (p:=fun z:Nat=>decide ((z:Int)∈i)) (q:=fun z=>decide ((z:Int)∈ar)||decide ((z:Int)∈op)) N;have Y:=Az2 (p:=fun z:Nat=>decide ((z:Int)∈ar)) (q:=fun z=>decide ((z:Int)∈op)) N;have m1:=Ajd N i;have m2:=Ajd N ar;have m3:=Ajd N op;have l1:i.length=Qq ps g.D.toNat:=A31 ps _;refine small p (fun z _ y=>y) ?_;have G:g.least<=g.D*(g.Z-g.P-2)-2*g.De+1:=by unfold Gm.least;omega
  omega
def arB(X:Co)(z:Int):Prop:=∃i,i<3/\(z=X.cur i\/z=X.By i)
structure Beo(S:Mi)(ep:Int)(x:Me)(bs:List Nat):Prop where
 ex:∃e:En,e.Wf/\e.bytes=bs/\¬e.kind=2/\EOk e ep x.seq/\x.sum=(Ga bs:Nat)/\(S.dr.dv.zs x.Aj.toNat).l[x.off.toNat]? = some (Aqo e x.Aj x.Ba x.off ep x.seq)/\(S.dr.dv.zs x.Ba.toNat).l[x.off.toNat]? = some (Aqo e x.Ba x.Aj x.off ep x.seq)
structure Mf(X:Co)(mt:Int->Int)(x:Me)(bs:List Nat):Prop where
 st:x.state=1
 ok:meB X.S.g x=true
 rc:Beo X.S X.ep x bs
 m1:mt x.Aj=x.Ba
 m2:mt x.Ba=x.Aj
 wh:(x.Aj=X.S.a/\x.Ba=X.S.b)\/(X.closed x.Aj=true/\X.closed x.Ba=true)
structure Cc(X:Co)(L:List (List Nat))(mt:Int->Int):Prop where
 c:Calm X.S
 un:X.st=false
 ar:∀i,i<3->Bu X.S.g (X.cur i)=i/\Bu X.S.g (X.By i)=i/\¬X.cur i=X.By i
 arz:∀z,arB X z->¬z=X.S.a/\¬z=X.S.b/\(∀d,d<X.S.g.D.toNat->z ∉ X.S.ps d)/\¬(X.S.dr.dv.zs z.toNat).st=1
 s2:∀i,i<X.S.dr.dv.n->(X.S.dr.dv.zs i).st<=2/\((X.S.dr.dv.zs i).st=0->(X.S.dr.dv.zs i).l = [])
 opm:¬X.S.a = -1->mt X.S.a=X.S.b/\mt X.S.b=X.S.a
 len:L.length=X.es.length
 lb:X.es.length=X.S.g.B.toNat
 A0x:∀(b:Nat) x bs,X.es[b]? = some x->L[b]? = some bs->(x=Me.nil 0/\bs=List.replicate 32 0)\/Mf X mt x bs
 sq:∀x∈X.es,x.seq<X.nx
 nm:0<=X.gen/\X.ep=1/\1<=X.nx
structure Dq(S T:Mi)(W:Nat->Prop):Prop where
 g:T.g=S.g
 bad:T.bad=S.bad
 ps:T.ps=S.ps
 o:T.a=S.a/\T.b=S.b/\T.u=S.u
 ev:T.dr.ev = []
 up:T.dr.dv.down=false
 hp:T.dr.Tw=S.dr.Tw
 n:T.dr.dv.n=S.dr.dv.n
 size:T.dr.dv.size=S.dr.dv.size
 op:T.dr.dv.op=S.dr.dv.op
 same:∀i,¬W i->(T.dr.dv.zs i).l=(S.dr.dv.zs i).l/\(T.dr.dv.zs i).st=(S.dr.dv.zs i).st
 Axu:∀i,W i->i<S.dr.dv.n->(T.dr.dv.zs i).st=0/\(T.dr.dv.zs i).l = []\/(T.dr.dv.zs i).st=2
theorem Dq.trans {U:Mi}{V:Nat->Prop}(a:Dq S T W)(b:Dq T U V):Dq S U fun i=>W i\/V i:=by
 refine⟨b.g.trans a.g,b.bad.trans a.bad,b.ps.trans a.ps,⟨b.o.1.trans a.o.1,b.o.2.1.trans a.o.2.1,b.o.2.2.trans a.o.2.2⟩,b.ev,b.up,b.hp.trans a.hp,b.n.trans a.n,b.size.trans a.size,b.op.trans a.op,fun i e=>?_,fun i e j=>?_⟩
 ·have x:=a.same i fun y=>e (.inl y)
  have y:=b.same i fun y=>e (.inr y)
  exact⟨y.1.trans x.1,y.2.trans x.2⟩
 ·rcases fN (V i)with v|v
  ·exact b.Axu i v (by rw[a.n];exact j)
  ·rw[(b.same i v).2,(b.same i v).1]
   exact a.Axu i (e.resolve_right v) j
theorem Dq.Wn(c:Calm S):Dq S S.Wn fun _=>False:=⟨rfl,rfl,rfl,⟨rfl,rfl,rfl⟩,c.ev,c.up,rfl,rfl,rfl,rfl,fun _ _=>⟨rfl,rfl⟩,fun _ y=>y.elim⟩
theorem Dq.mk'(q:Dq S T W)(c:Calm S):Mk S T:=⟨q.g,⟨q.n,q.size,q.op,by rw[q.ev,c.ev,q.hp]⟩⟩
def Idle(S:Mi)(W:Nat->Prop):Prop:=∀z:Int,0<=Bu S.g z->W z.toNat->¬z=S.a/\¬z=S.b/\∀d,d<S.g.D.toNat->z ∉ S.ps d
theorem Calm.dq(c:Calm S)(q:Dq S T W)(id:Idle S W):Calm T:=by
 have s:=c.sm;have a:=q.g;refine⟨{ toWp:=⟨by rw[a];exact c.wf.sm,by rw[a,q.ps,q.bad];exact c.wf.ps⟩,op:=by rw[a,q.bad,q.o.1,q.o.2.1];exact c.wf.op },by rw[a];exact c.rt,q.ev,q.up,by rw[q.n,a];exact c.n,by rw[q.size,a];exact c.size,by rw[q.op,a];exact c.op,by rw[q.bad];exact c.bad,by rw[a,q.ps];exact c.nd,?_,?_,?_⟩
 ·rw[a,q.ps]
  intro d hd x e;have O:=(c.wf.ps d hd x e).1;have w:¬W x.toNat:=fun y=>(id x (by omega) y).2.2 d hd e
  rw[(q.same _ w).1,(q.same _ w).2];exact c.fr d hd x e
 ·rw[a,q.ps,q.o.1,q.o.2.1,q.o.2.2]
  rcases c.opn with y|⟨j,u,C,E,G,H,J⟩
  ·exact .inl y
  ·refine .inr ⟨j,u,C,E,G,H,fun z v=>?_⟩
   have w:¬W z.toNat:=fun y=>by
    rcases v with rfl|rfl
    ·exact(id _ j y).1 rfl
    ·exact(id _ u y).2.1 rfl
   rw[(q.same _ w).1,(q.same _ w).2];exact J z v
 ·rw[q.n,q.o.1,q.o.2.1]
  intro i B hs;rcases fN (W i)with w|w
  ·have:=q.Axu i w B
   omega
  ·rw[(q.same i w).2]at hs
   exact c.few i B hs
theorem N1(q:Dq X.S T W)(z:Int):({ X with S:=T }:Co).closed z=X.closed z:=by
 unfold Co.closed Mi.F0;simp only[q.g,q.bad,q.ps,q.o.1,q.o.2.1]
theorem Beo.dq(q:Dq S T W){ep:Int}{x:Me}{bs:List Nat}(r:Beo S ep x bs)(a:¬W x.Aj.toNat)(h2:¬W x.Ba.toNat):Beo T ep x bs:=by
 obtain⟨e,i,j,o,a4,a5,u,v⟩:=r.ex;exact⟨e,i,j,o,a4,a5,by rw[(q.same _ a).1];exact u,by rw[(q.same _ h2).1];exact v⟩
theorem Azg{x:Me}(h:meB g x=true):Xo g x.Aj x.off=true/\Xo g x.Ba x.off=true/\¬Bu g x.Aj=Bu g x.Ba/\(1<=x.seq/\x.seq<=281474976710655)/\0<=x.sum/\x.sum<=4294967295:=by
 unfold meB at h;simp only[aR,aQ]at h;exact⟨h.1,h.2.1,h.2.2.1,⟨h.2.2.2.1,h.2.2.2.2.1⟩,h.2.2.2.2.2.1,h.2.2.2.2.2.2⟩
theorem Aeu{z off:Int}(h:Xo g z off=true):0<=Bu g z/\0<=off/\off<g.S:=by
 unfold Xo at h;simp only[aR,Fl]at h;refine⟨?_,h.2.2.1,by omega⟩;unfold Bu;rw[aF (by omega)];have:=(Nw h.1).z0;exact Int.ediv_nonneg (by omega) (by omega)
theorem Mf.Agb{x:Me}{bs:List Nat}(l:Mf X mt x bs):0<=Bu X.S.g x.Aj/\0<=Bu X.S.g x.Ba:=by
 obtain⟨a,b,_⟩:=Azg l.ok;exact⟨(Aeu a).1,(Aeu b).1⟩
theorem Ff{z:Int}:X.closed z=true↔0<=Bu X.S.g z/\¬z=X.S.a/\¬z=X.S.b/\X.S.F0 z=false/\Ada X.cur X.By z=false/\hasB X.S.ps X.S.g.D.toNat z=false:=by
 unfold Co.closed;simp only[aR,aQ,Bool.not_eq_true']
theorem Azq{z:Int}:Ada cur By z=true↔∃i,i<3/\((¬cur i = -1/\z=cur i)\/(¬By i = -1/\z=By i)):=by
 have e:∀x:Int,Yv x z=true↔¬x = -1/\z=x:=fun x=>by
  unfold Yv;simp only[aR,aQ];exact⟨fun y=>⟨y.1,y.2.symm⟩,fun y=>⟨y.1,y.2.symm⟩⟩
 have st:Ada cur By z=(((false||(Yv (cur 0) z||Yv (By 0) z))||(Yv (cur 1) z||Yv (By 1) z))||(Yv (cur 2) z||Yv (By 2) z)):=rfl;rw[st];simp only[dT,e,ak,false_or];constructor
 ·rintro((h|h)|h)
  ·exact⟨0,by omega,h⟩
  ·exact⟨1,by omega,h⟩
  ·exact⟨2,by omega,h⟩
 ·rintro⟨i,a,h⟩
  rcases i with _|_|_|i
  ·exact .inl (.inl h)
  ·exact .inl (.inr h)
  ·exact .inr h
  ·omega
theorem Cc.Ada(C:Cc X L mt)(z:Int):Go.Ev.Ada X.cur X.By z=true↔arB X z:=by
 rw[Azq];constructor
 ·rintro⟨i,e,h⟩
  exact⟨i,e,h.elim (fun y=>.inl y.2) fun y=>.inr y.2⟩
 ·rintro⟨i,e,h⟩
  obtain⟨a,b,_⟩:=C.ar i e;have nn:∀w:Int,Bu X.S.g w=i->¬w = -1:=fun w hw y=>by
   have:=Lc C.c.sm (z:=w) (by omega);omega
  exact⟨i,e,h.elim (fun y=>.inl ⟨nn _ a,y⟩) fun y=>.inr ⟨nn _ b,y⟩⟩
theorem Cc.F0(C:Cc X L mt)(z:Int):X.S.F0 z=false:=by
 unfold Mi.F0;rw[aP (C.c.bad _),cS]
theorem Cc.cover(C:Cc X L mt){z:Int}(j:0<=Bu X.S.g z):X.closed z=true\/z∈X.S.ps (Bu X.S.g z).toNat\/arB X z\/z=X.S.a\/z=X.S.b:=by
 by_cases e:z=X.S.a
 ·exact .inr (.inr (.inr (.inl e)))
 by_cases h2:z=X.S.b
 ·exact .inr (.inr (.inr (.inr h2)))
 cases i:Go.Ev.Ada X.cur X.By z with
 | true=>exact .inr (.inr (.inl ((C.Ada z).1 i)))
 | false=>
 cases h4:hasB X.S.ps X.S.g.D.toNat z with
 | true=>
  obtain⟨d,hd,hm⟩:=J9.1 h4;have:=(C.c.wf.ps d hd z hm).1;refine .inr (.inl ?_);rw[this];exact hm
 | false=>exact .inl (Ff.2 ⟨j,e,h2,C.F0 z,i,h4⟩)
theorem Cc.dq(C:Cc X L mt)(q:Dq X.S T W)(id:Idle X.S W)(lv:∀x∈X.es,x.state=1->¬W x.Aj.toNat/\¬W x.Ba.toNat):Cc { X with S:=T } L mt:=by
 have v:=C.c.dq q id;have H:T.g.B=X.S.g.B:=by rw[q.g]
 refine⟨v,C.un,by show ∀i,i<3->Bu T.g _=_/\Bu T.g _=_/\_;rw[q.g];exact C.ar,fun z j=>?_,fun i e=>?_,by show ¬T.a = -1->mt T.a=T.b/\mt T.b=T.a;rw[q.o.1,q.o.2.1];exact C.opm,C.len,by show X.es.length=T.g.B.toNat;rw[q.g];exact C.lb,fun b x bs u E=>?_,C.sq,C.nm⟩
 ·have:=C.arz z j
  show ¬z=T.a/\¬z=T.b/\(∀d,d<T.g.D.toNat->z ∉ T.ps d)/\¬(T.dr.dv.zs z.toNat).st=1;rw[q.o.1,q.o.2.1,q.g,q.ps];refine⟨this.1,this.2.1,this.2.2.1,fun y=>?_⟩;obtain⟨i,e,h⟩:=j;have hd:0<=Bu X.S.g z:=by
   obtain⟨a,b,_⟩:=C.ar i e;rcases h with h|h
   ·rw[show z=X.cur i from h];omega
   ·rw[show z=X.By i from h];omega
  obtain⟨_,G,_⟩:=Yu C.c hd;rcases fN (W z.toNat)with w|w
  ·have:=q.Axu _ w G;omega
  ·rw[(q.same _ w).2]at y;exact this.2.2.2 y
 ·have e:i<T.dr.dv.n:=e
  rw[q.n]at e;show(T.dr.dv.zs i).st<=2/\((T.dr.dv.zs i).st=0->(T.dr.dv.zs i).l = []);rcases fN (W i)with w|w
  ·rcases q.Axu _ w e with y|y
   ·exact⟨by omega,fun _=>y.2⟩
   ·exact⟨by omega,fun z=>by omega⟩
  ·rw[(q.same _ w).2,(q.same _ w).1];exact C.s2 i e
 ·rcases C.A0x b x bs u E with y|y
  ·exact .inl y
  ·obtain⟨w1,w2⟩:=lv x (bY u) y.st
   refine .inr ⟨y.st,by show meB T.g x=true;rw[q.g];exact y.ok,y.rc.dq q w1 w2,y.m1,y.m2,?_⟩;rw[N1 q,N1 q];show(x.Aj=T.a/\x.Ba=T.b)\/_;rw[q.o.1,q.o.2.1];exact y.wh
section
def Mi.room(S:Mi):Int:=if S.a = -1 then 0 else S.g.S-S.u
def Mi.free(S:Mi):Int:=S.g.S*F7 S.ps S.g.D.toNat+S.room
theorem Calm.Ayf(c:Calm S):0<=S.room/\S.room<=S.g.S/\(¬Roomy S->S.room=0)/\(Roomy S->S.room=S.g.S-S.u):=by
 have:=c.sm.s0;unfold Mi.room Roomy;rcases c.opn with y|⟨_,_,_,e,i,_⟩
 ·rw[aG y.1];exact⟨by omega,by omega,fun _=>rfl,fun z=>absurd y.1 z.1⟩
 ·by_cases h:S.a = -1
  ·rw[aG h];exact⟨by omega,by omega,fun _=>rfl,fun z=>absurd h z.1⟩
  ·rw[aF h];exact⟨by omega,by omega,fun z=>by have:¬S.u<S.g.S:=fun w=>z ⟨h,w⟩;omega,fun _=>rfl⟩
theorem Bgv(c:Calm S)(h:1<=S.free):∃T,S.Awb=some T:=by
 unfold Mi.Awb;by_cases r:Roomy S
 ·rw[aG r];exact⟨S,rfl⟩
 ·rw[aF r]
  have a:=(c.Ayf).2.2.1 r;have hp:¬F7 S.ps S.g.D.toNat=0:=fun y=>by
   unfold Mi.free at h;rw[y,a,Int.mul_zero]at h;omega
  unfold Aj8;rw[aF hp];exact⟨_,rfl⟩
theorem Cc.opened(C:Cc X L mt)(h:X.S.Awb=some T):∃mt',Cc { X with S:=T } L mt'/\X.S.free<=T.free/\Roomy T/\T.g=X.S.g/\(∀z,0<=Bu X.S.g z->X.closed z=true->({ X with S:=T }:Co).closed z=true)/\(∀x∈X.es,x.state=1->mt' x.Aj=mt x.Aj/\mt' x.Ba=mt x.Ba):=by
 have O:=Bch C.c h;have s:=C.c.sm;unfold Mi.Awb at h;by_cases r:Roomy X.S
 ·rw[aG r]at h
  cases h;exact⟨mt,C,cb _,r,rfl,fun _ _ y=>y,fun _ _ _=>⟨rfl,rfl⟩⟩
 rw[aF r]at h;cases hp:Aj8 X.S.ps X.S.g.D.toNat with
 | none=>rw[hp]at h;cases h
 | some t=>
 obtain⟨x,y,ps'⟩:=t;rw[hp]at h;cases h;have tk:=Bge s C.c.wf.ps hp;obtain⟨i,j,hi,hj,al,ex,ey,ek,_,_,dx,dy⟩:=Aoi C.c.wf.ps hp;have mx:x∈X.S.ps i:=by rw[ex];exact aX ..
 have my:y∈X.S.ps j:=by rw[ey];exact aX ..
 have U:¬x=y:=fun e=>by rw[e]at dx;omega
 have sub:∀d z,z∈ps' d->z∈X.S.ps d:=fun d z o=>by
  by_cases v:d=i
  ·subst v;rw[ex];exact aT _ o
  ·by_cases h2:d=j
   ·subst h2;rw[ey];exact aT _ o
   ·rw[<-ek d v h2];exact o
 have hB:∀z,hasB X.S.ps X.S.g.D.toNat z=false->hasB ps' X.S.g.D.toNat z=false/\¬z=x/\¬z=y:=fun z o=>by
  refine⟨?_,fun e=>?_,fun e=>?_⟩
  ·cases G:hasB ps' X.S.g.D.toNat z with
   | false=>rfl
   | true=>
    obtain⟨d,hd,hm⟩:=J9.1 G;rw[J9.2 ⟨d,hd,sub d z hm⟩]at o;exact o
  ·rw[J9.2 ⟨i,hi,by rw[e];exact mx⟩]at o;cases o
  ·rw[J9.2 ⟨j,hj,by rw[e];exact my⟩]at o;cases o
 let T:Mi:={ X.S.Wn with ps:=ps',a:=x,b:=y,u:=0 }
 have B:∀z,X.closed z=true->({ X with S:=T }:Co).closed z=true/\¬z=x/\¬z=y:=fun z o=>by
  obtain⟨P,V,E,a4,a5,Y⟩:=Ff.1 o;obtain⟨b1,b2,b3⟩:=hB z Y;exact⟨Ff.2 ⟨P,b2,b3,a4,a5,b1⟩,b2,b3⟩
 have H:∀z,(z=X.S.a\/z=X.S.b)->0<=Bu X.S.g z->({ X with S:=T }:Co).closed z=true/\¬z=x/\¬z=y:=fun z o hd=>by
  rcases C.c.opn with w|⟨w1,w2,_,_,_,w6,_⟩
  ·have:=Lc s hd;rcases o with rfl|rfl<;>omega
  have nb:hasB X.S.ps X.S.g.D.toNat z=false:=by
   cases G:hasB X.S.ps X.S.g.D.toNat z with
   | false=>rfl
   | true=>
    obtain⟨d,J,hm⟩:=J9.1 G;rcases o with rfl|rfl
    ·exact absurd hm (w6 d J).1
    ·exact absurd hm (w6 d J).2
  obtain⟨b1,b2,b3⟩:=hB z nb;refine⟨Ff.2 ⟨hd,b2,b3,C.F0 z,?_,b1⟩,b2,b3⟩;cases G:Go.Ev.Ada X.cur X.By z with
  | false=>rfl
  | true=>
   have:=C.arz z ((C.Ada z).1 G);rcases o with rfl|rfl
   ·exact absurd rfl this.1
   ·exact absurd rfl this.2.1
 let mt':Int->Int:=fun z=>if z=x then y else if z=y then x else mt z
 have Q:∀z,¬z=x->¬z=y->mt' z=mt z:=fun z v h2=>by show(if z=x then y else if z=y then x else mt z)=_;rw[aF v,aF h2]
 have lz:∀q bs,Mf X mt q bs->(({ X with S:=T }:Co).closed q.Aj=true/\¬q.Aj=x/\¬q.Aj=y)/\(({ X with S:=T }:Co).closed q.Ba=true/\¬q.Ba=x/\¬q.Ba=y):=fun q bs l=>by
  obtain⟨d1,d2⟩:=l.Agb;rcases l.wh with⟨w1,w2⟩|⟨w1,w2⟩
  ·exact⟨H _ (.inl w1) d1,H _ (.inr w2) d2⟩
  ·exact⟨B _ w1,B _ w2⟩
 refine⟨mt',⟨O.1,C.un,C.ar,fun z o=>?_,C.s2,fun _=>⟨?_,?_⟩,C.len,C.lb,fun b q bs hx hl=>?_,C.sq,C.nm⟩,?_,O.2.1,rfl,fun z _ o=>(B z o).1,fun q Z v=>?_⟩
 ·obtain⟨P,V,E,a4⟩:=C.arz z o
  exact⟨fun e=>E i hi (by rw[e];exact mx),fun e=>E j hj (by rw[e];exact my),fun d hd hm=>E d hd (sub d z hm),a4⟩
 ·show(if x=x then y else _)=y;rw[aG rfl]
 ·show(if y=x then y else if y=y then x else mt y)=x;rw[aF (cV U),aG rfl]
 ·rcases C.A0x b q bs hx hl with w|w
  ·exact .inl w
  ·obtain⟨⟨c1,n1,n2⟩,c2,n3,n4⟩:=lz q bs w
   obtain⟨e,P,V,E,a4,a5,Y,a7⟩:=w.rc.ex;exact .inr ⟨w.st,w.ok,⟨e,P,V,E,a4,a5,Y,a7⟩,by rw[Q _ n1 n2];exact w.m1,by rw[Q _ n3 n4];exact w.m2,.inr ⟨c1,c2⟩⟩
 ·have hr:=(C.c.Ayf).2.2.1 r
  show X.S.g.S*F7 X.S.ps X.S.g.D.toNat+X.S.room<=X.S.g.S*F7 ps' X.S.g.D.toNat+T.room;have:T.room=X.S.g.S:=by
   have:=(O.1.Ayf).2.2.2 O.2.1;rw[this];show X.S.g.S-0=_;omega
  rw[this,hr];have:=s.s0;have:=bT tk (show 0<=X.S.g.S by omega);rw[Int.mul_sub,Int.mul_one]at this;omega
 ·obtain⟨b,hb⟩:=cK.1 Z
  have ad:b<L.length:=by rw[C.len];exact(aW.1 hb).1
  rcases C.A0x b q _ hb (aC ad)with w|w
  ·rw[w.1]at v;cases v
  ·obtain⟨⟨_,n1,n2⟩,_,n3,n4⟩:=lz q _ w
   exact⟨Q _ n1 n2,Q _ n3 n4⟩
theorem Cc.Zq(C:Cc X L mt)(r:Roomy X.S){e:En}(we:e.Wf)(he:EOk e X.ep X.nx):Cc { X with S:=X.S.Zq e X.ep X.nx,nx:=X.nx+1 } L mt/\(X.S.Zq e X.ep X.nx).free=X.S.free-1 /\
 (¬e.kind=2->Beo (X.S.Zq e X.ep X.nx) X.ep ⟨1,X.S.a,X.S.b,X.S.u,X.nx,(Ga e.bytes:Nat)⟩ e.bytes):=by
 have ca:=C.c.Zq r e X.ep X.nx;obtain⟨n1,n2,n3,n4,n5,n6,V⟩:=C.c.ne r;obtain⟨la,sa⟩:=V _ (.inl rfl);obtain⟨lb,sb⟩:=V _ (.inr rfl);have H:((X.S.Zq e X.ep X.nx).dr.dv.zs X.S.a.toNat)=(X.S.dr.dv.zs X.S.a.toNat).app X.S.dr.dv.size (Aqo e X.S.a X.S.b X.S.u X.ep X.nx):=by
  show Ki (Ki X.S.dr.dv.zs X.S.a.toNat _) X.S.b.toNat _ X.S.a.toNat=_;unfold Ki;rw[aF n5,aG rfl]
 have J:((X.S.Zq e X.ep X.nx).dr.dv.zs X.S.b.toNat)=(X.S.dr.dv.zs X.S.b.toNat).app X.S.dr.dv.size (Aqo e X.S.b X.S.a X.S.u X.ep X.nx):=by
  show Ki (Ki X.S.dr.dv.zs X.S.a.toNat _) X.S.b.toNat _ X.S.b.toNat=_;unfold Ki;rw[aG rfl]
 have O:∀i,i≠X.S.a.toNat->i≠X.S.b.toNat->((X.S.Zq e X.ep X.nx).dr.dv.zs i)=X.S.dr.dv.zs i:=fun i j h2=>by
  show Ki (Ki X.S.dr.dv.zs X.S.a.toNat _) X.S.b.toNat _ i=_;unfold Ki;rw[aF h2,aF j]
 have Gx:∀(i o:Nat) v,(X.S.dr.dv.zs i).l[o]? = some v->((X.S.Zq e X.ep X.nx).dr.dv.zs i).l[o]? = some v:=fun i o v B=>by
  have Y:=(aW.1 B).1;by_cases j:i=X.S.a.toNat
  ·subst j;rw[H];simp only[Zn.app];rw[bh Y];exact B
  ·by_cases h2:i=X.S.b.toNat
   ·subst h2;rw[J];simp only[Zn.app];rw[bh Y];exact B
   ·rw[O i j h2];exact B
 have q:∀i,(((X.S.Zq e X.ep X.nx).dr.dv.zs i).st<=2/\¬((X.S.Zq e X.ep X.nx).dr.dv.zs i).st=0)\/((X.S.Zq e X.ep X.nx).dr.dv.zs i)=X.S.dr.dv.zs i:=fun i=>by
  by_cases j:i=X.S.a.toNat
  ·subst j;left;rw[H];simp only[Zn.app];split<;>omega
  ·by_cases h2:i=X.S.b.toNat
   ·subst h2;left;rw[J];simp only[Zn.app];split<;>omega
   ·exact .inr (O i j h2)
 refine⟨⟨ca,C.un,C.ar,fun z Z=>?_,fun i P=>?_,C.opm,C.len,C.lb,fun b x bs Q hl=>?_,fun x Q=>?_,⟨C.nm.1,C.nm.2.1,?_⟩⟩,?_,fun hk=>?_⟩
 ·obtain⟨E,G,U,a4⟩:=C.arz z Z
  refine⟨E,G,U,?_⟩;obtain⟨i,P,h⟩:=Z;have hd:0<=Bu X.S.g z:=by
   obtain⟨a,b,_⟩:=C.ar i P;rcases h with h|h
   ·rw[show z=X.cur i from h];omega
   ·rw[show z=X.By i from h];omega
  show ¬((X.S.Zq e X.ep X.nx).dr.dv.zs z.toNat).st=1;rw[O _ (fun y=>E (Z6 C.c.sm hd n1 y)) (fun y=>G (Z6 C.c.sm hd n2 y))];exact a4
 ·rcases q i with y|y
  ·exact⟨y.1,fun z=>absurd z y.2⟩
  ·show((X.S.Zq e X.ep X.nx).dr.dv.zs i).st<=2/\(((X.S.Zq e X.ep X.nx).dr.dv.zs i).st=0->((X.S.Zq e X.ep X.nx).dr.dv.zs i).l = [])
   rw[y];exact C.s2 i P
 ·rcases C.A0x b x bs Q hl with w|w
  ·exact .inl w
  ·obtain⟨e',E,G,U,a4,a5,a6,a7⟩:=w.rc.ex
   exact .inr ⟨w.st,w.ok,⟨e',E,G,U,a4,a5,Gx _ _ _ a6,Gx _ _ _ a7⟩,w.m1,w.m2,w.wh⟩
 ·have:=C.sq x Q
  show x.seq<X.nx+1;omega
 ·show 1<=X.nx+1;have:=C.nm.2.2;omega
 ·have j:=(C.c.Ayf).2.2.2 r
  unfold Mi.free;have h2:(X.S.Zq e X.ep X.nx).room=X.S.g.S-(X.S.u+1):=by
   show(if X.S.a = -1 then 0 else X.S.g.S-(X.S.u+1))=_;rw[aF r.1]
  rw[j,h2];show X.S.g.S*F7 X.S.ps X.S.g.D.toNat+_=_;omega
 ·refine⟨e,we,rfl,hk,he,rfl,?_,?_⟩
  ·show((X.S.Zq e X.ep X.nx).dr.dv.zs X.S.a.toNat).l[X.S.u.toNat]? = _
   rw[H];simp only[Zn.app];rw[bV (by omega),show X.S.u.toNat-(X.S.dr.dv.zs X.S.a.toNat).l.length=0 by omega];rfl
  ·show((X.S.Zq e X.ep X.nx).dr.dv.zs X.S.b.toNat).l[X.S.u.toNat]? = _
   rw[J];simp only[Zn.app];rw[bV (by omega),show X.S.u.toNat-(X.S.dr.dv.zs X.S.b.toNat).l.length=0 by omega];rfl
theorem Cc.set(C:Cc X L mt){j:Nat}(hj:j<X.es.length){x:Me}{bs:List Nat}(u:(x=Me.nil 0/\bs=List.replicate 32 0)\/Mf X mt x bs)(hs:x.seq<X.nx):Cc { X with es:=X.es.set j x } (L.set j bs) mt:=by
 refine⟨C.c,C.un,C.ar,C.arz,C.s2,C.opm,by show(L.set j bs).length=(X.es.set j x).length;rw[bK,bK];exact C.len,by show(X.es.set j x).length=_;rw[bK];exact C.lb,fun b y q a i=>?_,fun y a=>?_,C.nm⟩
 ·have a:(X.es.set j x)[b]? = some y:=a
  have up:∀{o:Me} {e:List Nat},Mf X mt o e->Mf { X with es:=X.es.set j x } mt o e:=fun w=>⟨w.st,w.ok,w.rc,w.m1,w.m2,w.wh⟩
  rw[dD]at a i;by_cases h:j=b
  ·subst h
   rw[aG rfl,aG hj]at a;rw[aG rfl,aG (by rw[C.len];exact hj)]at i;cases a;cases i;exact u.imp id up
  ·rw[aF h]at a i
   exact(C.A0x b y q a i).imp id up
 ·rcases cm a with o|rfl
  ·exact C.sq y o
  ·exact hs
end
section
structure Fd(S0 D:Lk)(z:Int)(k:Nat):Prop where
 ev:D.ev = []
 up:D.dv.down=false
 hp:D.Tw=S0.Tw
 n:D.dv.n=S0.dv.n
 size:D.dv.size=S0.dv.size
 op:D.dv.op=S0.dv.op
 same:∀i:Nat,¬i=z.toNat->D.dv.zs i=S0.dv.zs i
 here:(D.dv.zs z.toNat).l.length=k/\(D.dv.zs z.toNat).st=if k=S0.dv.size then 2 else if k=0 then 0 else 1
structure Tz(S:Mi)(z:Int):Prop where
 c:Calm S
 d:0<=Bu S.g z
 st:(S.dr.dv.zs z.toNat).st=0/\(S.dr.dv.zs z.toNat).l = []\/(S.dr.dv.zs z.toNat).st=2
theorem A30 {zs:Nat->Zn}{l:List Int}:∀n,(∀i,i<n->(zs i).st=1->(i:Int)∈l)->Wm zs n<=cn (fun i=>decide ((i:Int)∈l)) n
 | 0,_=>aE _
 | n+1,h=>by
  rw[Axs];have e:=A30 n fun i j=>h i (by omega)
  unfold cn;by_cases a:(zs n).st=1
  ·rw[aG a,aG (aM (h n (aL _) a))];omega
  ·rw[aF a];omega
section
variable{z:Int}(t:Tz S z)
include t
theorem Tz.pos:0<S.dr.dv.size:=by have:=t.c.sm.s0;have:=t.c.size;omega
theorem Tz.has(f:Fd S.dr D z k):D.dv.has z=true:=by
 obtain⟨a,b,_⟩:=Yu t.c t.d;unfold Dv.has;rw[f.n];exact aM ⟨a,by omega⟩
theorem Bpv(h:(S.dr.dv.zs z.toNat).st=0):Fd S.dr S.dr z 0:=by
 have:=t.pos;refine⟨t.c.ev,t.c.up,rfl,rfl,rfl,rfl,fun _ _=>rfl,?_⟩;rcases t.st with y|y
 ·rw[y.2,y.1,aF (by omega),aG rfl];exact⟨rfl,rfl⟩
 ·omega
theorem Bcx:(S.dr.reset z).2=0/\Fd S.dr (S.dr.reset z).1 z 0:=by
 obtain⟨a,b,o,_⟩:=Yu t.c t.d;have hs:=t.pos;have be:=Ann t.c.up o;have j:Na (S.dr.dv.zs z.toNat).st=0:=by
  rcases t.st with⟨y,_⟩|y<;>rw[y]<;>rfl
 unfold Lk.reset;rw[Aek t.c.ev];unfold Dv.reset;rw[aF (by rw[be];exact fun y=>y rfl),aG j,j];refine⟨rfl,t.c.ev,t.c.up,rfl,rfl,rfl,rfl,fun i q=>?_,?_⟩
 ·show Ki S.dr.dv.zs z.toNat Zn.empty i=_
  unfold Ki;rw[aF q]
 ·have e:((S.dr.dv.tick.set z.toNat Zn.empty).zs z.toNat)=Zn.empty:=by
   show Ki S.dr.dv.zs z.toNat Zn.empty z.toNat=_;unfold Ki;rw[aG rfl]
  show((S.dr.dv.tick.set z.toNat Zn.empty).zs z.toNat).l.length=0/\((S.dr.dv.tick.set z.toNat Zn.empty).zs z.toNat).st=_;rw[e,aF (by omega),aG rfl];exact⟨rfl,rfl⟩
theorem Bj3(f:Fd S.dr D z k)(C:k<S.dr.dv.size)(x:List EV):(D.append z x).2=((k:Int),0)/\Fd S.dr (D.append z x).1 z (k+1):=by
 have u:=t.has f;obtain⟨o,q⟩:=f.here;have h2:(D.dv.zs z.toNat).st<2:=by rw[q,aF (by omega)];split<;>omega
 have v:¬D.dv.op<=Wm D.dv.zs D.dv.n:=by
  have h0:=Lc t.c.sm t.d;have E:=A30 (zs:=D.dv.zs) (l:=[S.a,S.b,z]) D.dv.n fun i B y=>by
   simp only[bU,List.not_mem_nil,or_false];by_cases e:i=z.toNat
   ·exact .inr (.inr (by omega))
   ·rw[f.same i e]at y
    rcases t.c.few i (by rw[<-f.n];exact B) y with w|w
    ·exact .inl w
    ·exact .inr (.inl w)
  have h2:=Ajd D.dv.n [S.a,S.b,z];have G:([S.a,S.b,z]:List Int).length=3:=rfl;have:=t.c.sm.o0;have h4:=f.op;have H:=t.c.op;omega
 unfold Lk.append;rw[Aek f.ev,A2b f.up u h2 v];have e2:((D.dv.tick.set z.toNat ((D.dv.zs z.toNat).app D.dv.size x)).zs z.toNat)=(D.dv.zs z.toNat).app D.dv.size x:=by
  show Ki D.dv.zs z.toNat _ z.toNat=_;unfold Ki;rw[aG rfl]
 refine⟨by rw[o],f.ev,f.up,f.hp,f.n,f.size,f.op,fun i j=>?_,?_⟩
 ·show Ki D.dv.zs z.toNat _ i=_
  unfold Ki;rw[aF j];exact f.same i j
 ·show((D.dv.tick.set z.toNat ((D.dv.zs z.toNat).app D.dv.size x)).zs z.toNat).l.length=k+1/\((D.dv.tick.set z.toNat ((D.dv.zs z.toNat).app D.dv.size x)).zs z.toNat).st=_
  rw[e2];unfold Zn.app;refine⟨by simp[o],?_⟩;show(if(D.dv.zs z.toNat).l.length+1=D.dv.size then 2 else 1)=_;rw[o,f.size];split
  ·rfl
  ·rw[aF (by omega)]
theorem Btd(f:Fd S.dr D z k)(h:(D.dv.zs z.toNat).st=2\/k=0):Dq S { S with dr:=D } fun i=>i=z.toNat:=by
 refine⟨rfl,rfl,rfl,⟨rfl,rfl,rfl⟩,f.ev,f.up,f.hp,f.n,f.size,f.op,fun i e=>?_,fun i e _=>?_⟩
 ·show(D.dv.zs i).l=_/\(D.dv.zs i).st=_
  rw[f.same i e];exact⟨rfl,rfl⟩
 ·subst e
  rcases h with h|h
  ·exact .inr h
  ·subst h
   have hs:=t.pos;obtain⟨a,b⟩:=f.here;rw[aF (by omega),aG rfl]at b;exact .inl ⟨b,dB a⟩
theorem Bl6(f:Fd S.dr D z k):(D.finish z).2=0/\Dq S { S with dr:=(D.finish z).1 } fun i=>i=z.toNat:=by
 have o:=t.has f;have be:=Ann f.up o;obtain⟨q,e⟩:=f.here;have j:Na (D.dv.zs z.toNat).st=0:=by
  rw[e];split
  ·rfl
  ·split<;>rfl
 unfold Lk.finish;rw[Aek f.ev];unfold Dv.finish;rw[aF (by rw[be];exact fun y=>y rfl),aG j,j];refine⟨rfl,rfl,rfl,rfl,⟨rfl,rfl,rfl⟩,f.ev,f.up,f.hp,f.n,f.size,f.op,fun i a=>?_,fun i a _=>?_⟩
 ·have e1:((D.dv.tick.set z.toNat (D.dv.zs z.toNat).finish).zs i)=D.dv.zs i:=by
   show Ki D.dv.zs z.toNat _ i=_;unfold Ki;rw[aF a]
  show((D.dv.tick.set z.toNat (D.dv.zs z.toNat).finish).zs i).l=_/\((D.dv.tick.set z.toNat (D.dv.zs z.toNat).finish).zs i).st=_;rw[e1,f.same i a];exact⟨rfl,rfl⟩
 ·subst a
  right;show((D.dv.tick.set z.toNat (D.dv.zs z.toNat).finish).zs z.toNat).st=2;have e2:((D.dv.tick.set z.toNat (D.dv.zs z.toNat).finish).zs z.toNat)=(D.dv.zs z.toNat).finish:=by
   show Ki D.dv.zs z.toNat _ z.toNat=_;unfold Ki;rw[aG rfl]
  rw[e2];rfl
end
section
variable (A:Bj disp)(hK:10000<K){ar m:Nat}(M:Dd h m S F)(hb:HB h)(hA:h.get ar=some (.cells (arC m cur By) 152))(fA:F ar){z:Int}(t:Tz S z)
include A hK t
theorem Bs6(M:Dd h m S F)(hb:HB h)(hA:h.get ar=some (.cells (arC m cur By) 152))(hd:15<=d):Ok (Ae TT disp K d false 186 [.ptr ar 0,I z] h) fun v h'=>v=I 0/\(∃i,Dd h' m { S with dr:=i } F/\Fd S.dr i z 0)/\Kf F h h'/\HB h':=by
 obtain⟨e,rfl⟩:∃k,d=k+1:=⟨d-1,by omega⟩;rw[Atp A (by omega)];simp only[Aod,Aa];rw[Al hA rfl (v:=.ptr m 0) rfl];obtain⟨D,V,dr⟩:=Alv A hK M hb;rw[dr.Eb,dr.device,dr.state,aG (Yu t.c t.d).2.2.1];simp only[I,Ac];by_cases j:(S.dr.dv.zs z.toNat).st=0
 ·rw[j]
  simp only[show decide (((0:Nat):Int)=0)=true from rfl,Aa];exact .ret ⟨rfl,⟨S.dr,M,Bpv t j⟩,Av.refl _,hb⟩
 ·rw[aP (by omega)]
  simp only[Aa,Aim];rw[Al hA rfl (v:=.ptr m 0) rfl,dr.Eb];obtain⟨o,q⟩:=Bcx t;refine(dr.reset (d:=e) (by omega) z (by rw[Aek t.c.ev];exact t.pos)).An ?_;rintro _ h' ⟨rfl,M2,u,a⟩;rw[o];exact .ret ⟨rfl,⟨_,M2,q⟩,u,a⟩
theorem Bdd(hd:14<=d){X:List (List EV)}(P:Bio X)(aa:X.length<=S.dr.dv.size)(ab:0<X.length)(ad:S.dr.dv.size<=64){v:EV}{q:Nat}:∀(f i:Nat) (h:Ab) (D:Lk),X.length-i<f->i<=X.length->Dd h m { S with dr:=D } F->HB h->h.get ar=some (.cells (arC m cur By) 152)->F ar->F q->Cs h v q 30 64 X.length X.flatten->Fd S.dr D z i ->
 Ok (N3 (Ae TT disp K d false) (Ae TT disp K d true) K f (.ptr ar 0) (I z) v (I X.length) (I i) h) fun w h'=>w=I 0/\(∃B,Dd h' m { S with dr:=B } F/\Dq S { S with dr:=B } fun i=>i=z.toNat)/\Kf F h h'/\HB h':=by
 intro f;induction f with
 | zero=>intro i h D hf;omega
 | succ f ih=>
  intro i h D hf hi M hb hA fA Q row c;rw[N3];simp only[I,Ac];by_cases e:i<X.length
  ·have:decide ((i:Int)<(X.length:Int))=true:=by simp;omega
   simp only[this,Aa,Ajo];obtain⟨C,U⟩:=P _ (av e);have e1:Oy X.flatten (i*64) 64=some X[i]:=A49 (n:=64) _ _ _ (fun x hx=>(P x hx).1) (aC e);have ix:=row.ix e .i64;rw[ix,Bp (row.block (by omega)) rfl e1];generalize X[i]=x at C U
   try simp only[Aa]
   refine Ok.mk (by simp) C fun h2 E Y _=>?_
   have a:=E.hb hb;have u:=E.at hb hA;have M2:=(M.ext hb E).less fun j (hj:F j)=>Or.inl hj
   have l2:=a _ _ u;have l3:=a _ _ Y;obtain⟨D1,V,dr⟩:=Alv A hK M2 a;rw[Ku l2,Al u rfl (v:=.ptr m 0) rfl]
   try simp only[Aa,Aw]
   rw[Aqs dr.Bus]
   try simp only[Aa,Aw]
   rw[Ku l3,Bp Y rfl (Ai C)]
   try simp only[Aa,Aw]
   obtain⟨G,H⟩:=Bj3 t c (by omega) x;refine dr.append hd z C U (by kernel_rfl) (by kernel_rfl) (fun _=>by kernel_rfl) ?_;intro h4 s4 M4 k4 J;rw[show(({ S with dr:=D }:Mi).dr.append z x)=D.append z x from rfl]at *;rw[G];simp only[Aa,I,Ac,aB,aD,aA,Akp,Akb,Ajr];rw[Cj,show((i:Nat):Int)+1=((i+1:Nat):Int) by omega];have o:Kf F h h4:=(Ext.kf E).trans k4;refine(ih (i+1) h4 _ (by omega) (by omega) M4 J (o.at hb hA fA) fA Q (row.frame fun y=>o.get _ (hb _ _ (row.block y)) fun y=>y Q) H).mono ?_;rintro _ h5 ⟨rfl,⟨B,M5,c5⟩,k5,O⟩;exact⟨rfl,⟨B,M5,c5⟩,o.trans k5,O⟩
  ·have:i=X.length:=by omega
   subst this;have:decide ((X.length:Int)<(X.length:Int))=false:=by simp
   simp only[this,Aa,Aje];rw[Al hA rfl (v:=.ptr m 0) rfl];obtain⟨D1,V,dr⟩:=Alv A hK M hb;rw[dr.Eb,dr.device];have st:=dr.state z;simp only[I]at st;rw[st,aG (t.has c)];simp only[I,Ac];by_cases Z:(D.dv.zs z.toNat).st=2
   ·rw[Z]
    simp only[show decide (((2:Nat):Int)=2)=true from rfl,Aa];exact .ret ⟨rfl,⟨D,M,Btd t c (.inl Z)⟩,Av.refl _,hb⟩
   ·rw[aP (by omega)]
    simp only[Aa,Akt];rw[Al hA rfl (v:=.ptr m 0) rfl,dr.Eb];obtain⟨G,H⟩:=Bl6 t c;refine(dr.finish (d:=d) hd z).An ?_;rintro _ h' ⟨rfl,M2,k2,a⟩;rw[show(({ S with dr:=D }:Mi).dr.finish z)=D.finish z from rfl]at *;rw[G];exact .ret ⟨rfl,⟨_,M2,H⟩,k2,a⟩
include M hb hA fA
theorem Btt {b ml ll:Nat}{es:List Me}(mp:W8 h b ml ll S.g es){x y w:Int}(hR:snR x y w es=true)(hd:17<=d):Ok (Ae TT disp K d false 159 [.ptr ar 0,.agg [I x,I y,I w,.ptr b 0],I z] h) fun v h'=>v=I 0/\(∃P,Dd h' m { S with dr:=P } F/\Dq S { S with dr:=P } fun i=>i=z.toNat)/\Kf F h h'/\HB h':=by
 have Q:=t.c.rt;have s:=Nw Q;have n0:=Lc s t.d;have n1:z<S.g.D*S.g.Z:=by rcases Ko s z with y|⟨_,_,_,_,y⟩;have:=t.d;omega;exact y
 have hp:S.g.parts<=S.g.S:=by
  have:=Q;unfold rtB at this;simp only[aR,aQ]at this;exact this.2.1
 have al:=t.c.size;have:=s.s0;have:=s.s1;have:=s.b0;have ao:1<=S.g.parts:=by unfold Gm.parts;omega
 obtain⟨e,rfl⟩:∃k,d=k+1:=⟨d-1,by omega⟩;rw[Avy A (by omega)];simp only[Arf,Aa];obtain⟨h1,e_,O,g1,ax⟩:=nW h (.cells [I x,I y,I w,.ptr b 0] 160);rw[e_];have u:=O.hb hb;have H:=O.at hb hA;have M1:=(M.ext hb O).less fun j (hj:F j)=>Or.inl hj
 have l1:=u _ _ H;obtain⟨D,V,dr⟩:=Alv A hK M1 u;rw[Ku l1,Al H rfl (v:=.ptr m 0) rfl]
 try simp only[Aa,Aw]
 refine Ok.bE dr.table (fun _ _ p=>p.2) ?_;rintro _ az h2 ⟨rfl,_⟩ _ U;have E:=U.hb u;have g2:=U.at u g1;have l2:=E _ _ g2;have Y:h.next<h1.next:=by omega
 try simp only[Aa,Aw]
 rw[Ku Y,Db g2 rfl,Ai (n:=4) rfl]
 try simp only[Aa,Aw]
 have a:Ext h h2:=O.trans U;have aa:W8 h2.lift b ml ll S.g es:=(mp.frame (a.get _ (hb _ _ mp.map) id) (a.get _ (hb _ _ mp.row) id) (a.get _ (hb _ _ mp.live) id)).frame (Ci _ _) (Ci _ _) (Ci _ _);refine Ok.bE (Bfk (K:=K) A (d:=e) (by omega) hK Q aa (D4 E) hR n0 n1) (fun _ _ p=>by obtain⟨_,_,_,_,_,_,_,_,p,_⟩:=p;exact p) ?_;rintro _ a0 h3 ⟨v,q,X,rfl,row,lq,hL,hX,_,_⟩ sm x3;have B:=x3.hb E;have o:Cs h3 v q 30 64 X.length X.flatten:=row.frame fun _=>sm.get _
 have hq:h2.next<=q:=lq (by omega)
 simp only[Aa,I,Ac,aD,aA,Aj4];have G:Ext h h3:=a.trans x3;have J:=G.at hb hA;have M3:Dd h3 m S (fun i=>F i\/i=q):=(M.ext hb G).less fun j hj=>by
  rcases hj with hj|hj
  ·exact .inl hj
  ·subst hj
   have:=B _ _ (o.block (by omega));have:=a.next
   exact .inr ⟨by omega,by omega⟩
 refine(Bs6 (K:=K) A hK t M3 B J (d:=e) (by omega)).An ?_;rintro _ h4 ⟨rfl,⟨P,M4,c4⟩,k4,ae⟩;simp only[Aa,I,Ac,aD,aA,Aj6];have C:=o.frame (h':=h4) fun y=>k4.get _ (B _ _ (o.block y)) fun w=>w (.inr rfl)
 rw[C.F3];refine(Bdd (K:=K) A hK t (d:=e) (by omega) hX (by omega) (by omega) (by omega) K 0 h4 _ (by omega) (by omega) M4 ae (k4.at B J (.inl fA)) (.inl fA) (.inr rfl) C c4).mono ?_;rintro _ h5 ⟨rfl,⟨D2,M5,c5⟩,k5,af⟩;exact⟨rfl,⟨D2,M5.less fun j hj=>.inl hj,c5⟩,((Ext.kf G).trans (k4.less fun j hj=>.inl hj)).trans (k5.less fun j hj=>.inl hj),af⟩
end
end
def swC(cur By:Nat->Int)(k:Nat):Nat->Int:=fun j=>if j<k then By j else cur j
theorem Biq(cur By:Nat->Int)(k:Nat):Om (swC cur By k) k (By k)=swC cur By (k+1):=by
 funext j;unfold Om swC;by_cases h:j=k
 ·subst h;rw[aG rfl,aG (aL _)]
 ·rw[aF h]
  by_cases h2:j<k
  ·rw[aG h2,aG (by omega)]
  ·rw[aF h2,aF (by omega)]
theorem Brt(cur By:Nat->Int)(k:Nat):Om (Om (swC By cur k) k (-1)) k (cur k)=swC By cur (k+1):=by
 have:Om (Om (swC By cur k) k (-1)) k (cur k)=Om (swC By cur k) k (cur k):=by
  funext j;unfold Om;split<;>rfl
 rw[this];exact Biq By cur k
def A27(By:Nat->Int)(k:Nat):Nat->Prop:=fun z=>∃i,i<k/\z=(By i).toNat
theorem Dq.flush(q:Dq S T W):T.dr.flush.2=0/\Dq S { T with dr:=T.dr.flush.1 } W:=by
 have a:=Aqi q.ev q.up;rw[a];exact⟨rfl,q.g,q.bad,q.ps,q.o,q.ev,q.up,q.hp,q.n,q.size,q.op,q.same,q.Axu⟩
section
variable (A:Bj disp)(hK:10000<K){ar m b ml ll:Nat}{es:List Me}(fA:F ar)(fb:F b/\F ml/\F ll/\b≠ar/\ml≠ar/\ll≠ar){x y w:Int}
include A hK fA fb
theorem Bta(hd:18<=d)(U:snR x y w es=true){i:Nat}(q:i<3)(M:Dd h m S F)(hb:HB h)(hA:h.get ar=some (.cells (arC m cur By) 152))(mp:W8 h b ml ll S.g es)(t:Tz S (By i))(V:S.F0 (By i)=false):
 Ok (Ae TT disp K d false 132 [.ptr ar 0,I i,.agg [I x,I y,I w,.ptr b 0]] h) fun v h'=>v=.tuple [.bool true,I 0]/\(∃G,Dd h' m { S with dr:=G } F/\Dq S { S with dr:=G } fun k=>k=(By i).toNat)/\h'.get ar=some (.cells (arC m (Om cur i (By i)) (Om (Om By i (-1)) i (cur i))) 152)/\Av (fun j=>¬F j\/j=ar) h h'/\HB h':=by
 obtain⟨e,rfl⟩:∃k,d=k+1:=⟨d-1,by omega⟩;rw[Asw A (by omega)];simp only[Apn,Aa];obtain⟨Y,Z,H,g1,ab⟩:=nW h (.cells [I x,I y,I w,.ptr b 0] 160);rw[Z];have u:=H.hb hb;have O:=H.at hb hA;have M1:Dd Y m S (fun j=>F j\/j=h.next):=(M.ext hb H).less fun j hj=>by
  rcases hj with hj|hj
  ·exact .inl hj
  ·exact .inr ⟨by omega,by omega⟩
 obtain⟨P,rfl⟩:∃k,K=k+1:=⟨K-1,by omega⟩;rw[Q3];have ae:=Lc t.c.sm t.d;have ht:tgt S (By i) i=(By i,S):=by
  unfold tgt;rw[aG ⟨by omega,V⟩]
 refine(Bkd (K:=P+1) hK M1 u O (.inl fA) q (Af4 t.c.sm t.d)).An ?_;rintro _ h2 ⟨rfl,M2,B,c2,C⟩;rw[ht]at M2⊢;have la:=hb _ _ hA;have a:Av (fun j=>¬F j\/j=ar) h h2:=(Ext.to H).trans (c2.mono fun j hj=>hj.elim (fun y=>.inl fun w=>y (.inl w)) .inr);have g2:h2.get h.next=some (.cells [I x,I y,I w,.ptr b 0] 160):=c2.at u g1 fun w=>w.elim (fun w=>w (.inr rfl)) fun w=>by omega
 simp only[I,Ac];rw[aP (show ¬By i = -1 by omega)];simp only[Aa,Aij];rw[Db g2 rfl,Ai (n:=4) rfl];simp only[Aa];have mT:W8 h2 b ml ll S.g es:=mp.frame (a.get _ (hb _ _ mp.map) fun w=>w.elim (fun w=>w fb.1) fb.2.2.2.1) (a.get _ (hb _ _ mp.row) fun w=>w.elim (fun w=>w fb.2.1) fb.2.2.2.2.1) (a.get _ (hb _ _ mp.live) fun w=>w.elim (fun w=>w fb.2.2.1) fb.2.2.2.2.2);have fl:=Btt (K:=P+1) A hK (z:=By i) M2 C B (.inl fA) t mT U (d:=e) (by omega);simp only[I]at fl;refine fl.An ?_;rintro _ h3 ⟨rfl,⟨G,M3,c3⟩,Q,E⟩;have o:=Q.at C B (.inl fA);have J:=E _ _ o;simp only[Ac,aB,Aa];rw[Air q]
 try simp only[Aa]
 rw[dL,Ku J,Al o rfl (Bts q)]
 try simp only[Aa,Aw]
 rw[Ay (l:=[.int .i64 (By i),I (cur i)]) rfl]
 try simp only[Aa,Aw]
 rw[Air q]
 try simp only[Aa,Aw]
 rw[Lf];refine Ok.st (arC m (Om cur i (By i)) (Om (Om By i (-1)) i (cur i))) o rfl rfl (Bgw q (By i) (cur i)) ?_;exact .ret ⟨rfl,⟨G,(M3.Ag7 (T:=fun j=>j=ar) ((Av.refl (S:=fun j=>j=ar) _).Ar (.inl rfl) J _) fun j hj _=>.inl (hj▸fA)).less fun j hj=>.inl hj,c3⟩,Af _ _ _,(a.trans (Q.mono fun j hj=>.inl fun w=>hj (.inl w))).Ar (.inl (.inr rfl)) J _,E.put J _⟩
theorem A9w(hd:19<=d)(hR:snR x y w es=true){t:Nat}(ft:F t)(ta:t≠ar)(Q:∀i,i<3->Tz S (By i)/\S.F0 (By i)=false/\Bu S.g (By i)=i)(J:Idle S (A27 By 3)):∀(f i:Nat) (h:Ab) (T:Mi),3-i<f->i<=3->Dd h m T F->Dq S T (A27 By i)->HB h->h.get ar=some (.cells (arC m (swC cur By i) (swC By cur i)) 152)->h.get t=some (.cells [I x,I y,I w,.ptr b 0] 160)->W8 h b ml ll S.g es ->
 Ok (Mz (Ae TT disp K d false) (Ae TT disp K d true) K f (.ptr ar 0) (.ptr t 0) (I i) (I i) h) fun v h'=>v=.tuple [I 3,I 0]/\(∃T,Dd h' m T F/\Dq S T (A27 By 3))/\h'.get ar=some (.cells (arC m (swC cur By 3) (swC By cur 3)) 152)/\Av (fun j=>¬F j\/j=ar) h h'/\HB h':=by
 intro f;induction f with
 | zero=>intro i h T hf;omega
 | succ f ih=>
  intro i h T hf hi M q hb hA gt mp;rw[Mz];simp only[I,Ac];by_cases u:i<3
  ·have:decide ((i:Int)<3)=true:=by simp;omega
   simp only[this,Aa,Ahw];rw[Db gt rfl,Ai (n:=4) rfl];simp only[Aa];obtain⟨G,U,di⟩:=Q i u;have H:swC By cur i i=By i:=aF (bS _);have ec:swC cur By i i=cur i:=aF (bS _);have B:¬A27 By i (By i).toNat:=fun⟨j,hj,e⟩=>by
    have dj:=(Q j (by omega)).2.2;have:=Z6 G.c.sm (x:=By i) (y:=By j) (by omega) (by omega) e;rw[this,dj]at di;omega
   have tT:Tz T (By i):=⟨G.c.dq q fun z hz hw=>J z hz (by obtain⟨j,hj,e⟩:=hw;exact⟨j,by omega,e⟩),by rw[q.g];exact G.d,by rw[(q.same _ B).1,(q.same _ B).2];exact G.st⟩;have nT:T.F0 (By i)=false:=by unfold Mi.F0 at U⊢;rw[q.g,q.bad];exact U
   have C:=Bta (K:=K) A hK fA fb (d:=d) (by omega) hR u (By:=swC By cur i) M hb hA (by rw[q.g];exact mp) (by rw[H];exact tT) (by rw[H];exact nT);simp only[I]at C;refine C.An ?_;rintro _ h2 ⟨rfl,⟨D',M2,Y⟩,E,c2,a⟩;rw[H,ec,Biq,Brt]at E;rw[H]at Y;simp only[Aa,Ac,aD,aA,Ahf,Ahj];rw[Cj];rw[show((i:Nat):Int)+1=((i+1:Nat):Int) by omega];have O:W8 h2 b ml ll S.g es:=mp.frame (c2.get _ (hb _ _ mp.map) fun w=>w.elim (fun w=>w fb.1) fb.2.2.2.1) (c2.get _ (hb _ _ mp.row) fun w=>w.elim (fun w=>w fb.2.1) fb.2.2.2.2.1) (c2.get _ (hb _ _ mp.live) fun w=>w.elim (fun w=>w fb.2.2.1) fb.2.2.2.2.2);have q3:Dq S { T with dr:=D' } (A27 By (i+1)):=by
    have:=q.trans Y;refine⟨this.g,this.bad,this.ps,this.o,this.ev,this.up,this.hp,this.n,this.size,this.op,fun k P=>this.same k fun y=>P ?_,fun k P hn=>this.Axu k ?_ hn⟩
    ·rcases y with⟨j,hj,e⟩|e
     ·exact⟨j,by omega,e⟩
     ·exact⟨i,by omega,e⟩
    ·obtain⟨j,hj,e⟩:=P
     rcases cL.1 hj with y|y
     ·exact .inl ⟨j,y,e⟩
     ·subst y;exact .inr e
   refine(ih (i+1) h2 _ (by omega) (by omega) M2 q3 a E (c2.at hb gt fun w=>w.elim (fun w=>w ft) ta) O).mono ?_;rintro _ h3 ⟨rfl,r1,r2,r3,r4⟩;exact⟨rfl,r1,r2,c2.trans r3,r4⟩
  ·have:i=3:=by omega
   subst this;have:decide (((3:Nat):Int)<3)=false:=rfl;simp only[this,Aa,Ah6];rw[Al hA rfl (v:=.ptr m 0) rfl];obtain⟨D,V,dr⟩:=Alv A hK M hb;rw[dr.Eb];obtain⟨f1,f2⟩:=q.flush;refine(dr.flush (d:=d) (by omega)).An ?_;rintro _ h2 ⟨rfl,M2,Z,a⟩;rw[f1];simp only[I,Ac,aD,aA,Aa,Aic];have e:decide (((3:Nat):Int)<2)=false:=rfl;simp only[e,Aa,Aie];exact .ret ⟨rfl,⟨_,M2,f2⟩,Z.at hb hA fA,Z.mono fun j hj=>.inl hj,a⟩
theorem Bri(hd:20<=d)(hR:snR x y w es=true)(c:Calm S)(hT:∀i,i<3->Tz S (By i)/\S.F0 (By i)=false/\Bu S.g (By i)=i)(P:Idle S (A27 By 3))(M:Dd h m S F)(hb:HB h)(hA:h.get ar=some (.cells (arC m cur By) 152))(mp:W8 h b ml ll S.g es):
 Ok (Ae TT disp K d false 99 [.ptr ar 0,.agg [I x,I y,I w,.ptr b 0]] h) fun v h'=>v=.tuple [I 3,I 0]/\(∃T,Dd h' m T F/\Dq S T (A27 By 3))/\h'.get ar=some (.cells (arC m (swC cur By 3) (swC By cur 3)) 152)/\Av (fun j=>¬F j\/j=ar) h h'/\HB h':=by
 obtain⟨e,rfl⟩:∃k,d=k+1:=⟨d-1,by omega⟩;have s:=c.sm;rw[At6 A (by omega)];simp only[Aox,Aa];obtain⟨h1,e_,E,O,ai⟩:=nW h (.cells [I x,I y,I w,.ptr b 0] 160);rw[e_];have o:=E.hb hb;have l1:=o _ _ O;have la:=o _ _ (E.at hb hA);rw[Ku l1,Db O rfl,Ai (n:=4) rfl]
 try simp only[Aa,Aw]
 have u:=mp.frame (E.get _ (hb _ _ mp.map) id) (E.get _ (hb _ _ mp.row) id) (E.get _ (hb _ _ mp.live) id);refine Ok.bE ((Awp (K:=K) A (d:=e) (by omega) (by omega) s (u.frame (Ci _ _) (Ci _ _) (Ci _ _)) (D4 o) x y w)) (fun _ _ p=>p.2.1) ?_;rintro _ al h2 ⟨rfl,_⟩ _ B;have G:=B.hb o;rw[hR];have g2:=B.at o O;simp only[Aa,Ac,Aw];rw[Ku l1,Al g2 rfl (v:=.ptr b 0) rfl]
 try simp only[Aa,Aw]
 have Q:=u.frame (B.get _ (o _ _ u.map) id) (B.get _ (o _ _ u.row) id) (B.get _ (o _ _ u.live) id);refine Ok.bE ((Amx (K:=K) (Q.frame (Ci _ _) (Ci _ _) (Ci _ _)) (D4 G)).mono fun _ _ a=>(⟨a.1,a.2.1⟩:_/\_)) (fun _ _ p=>p.2) ?_;rintro _ aq h3 ⟨rfl,_⟩ _ U;have H:=U.hb G;have C:Ext h h3:=(E.trans B).trans U;have V:=C.at hb hA
 try simp only[Aa,Aw]
 rw[Ku la,Al V rfl (v:=.ptr m 0) rfl]
 try simp only[Aa,Aw]
 have M3:=(M.ext hb C).less fun j (hj:F j)=>Or.inl hj
 refine Ok.bE (Ss (K:=K) (M3.same (Asm.lift _)) (D4 H)) (fun _ _ p=>p.2) ?_;rintro _ ax h4 ⟨rfl,_⟩ _ Y;have Z:=Y.hb H
 try simp only[Aa,Aw]
 rw[Bua];simp only[Ze,Aa,Ahl];have q:Ext h h4:=C.trans Y;have J:Ext h1 h4:=(B.trans U).trans Y;have M4:Dd h4 m S (fun j=>F j\/j=h.next):=(M.ext hb q).less fun j hj=>by
  rcases hj with hj|hj
  ·exact .inl hj
  ·have:=J.next
   exact .inr ⟨by omega,by omega⟩
 have lA:=hb _ _ hA;have aa:=mp.frame (q.get _ (hb _ _ mp.map) id) (q.get _ (hb _ _ mp.row) id) (q.get _ (hb _ _ mp.live) id);have q0:Dq S S (A27 By 0):=⟨rfl,rfl,rfl,⟨rfl,rfl,rfl⟩,c.ev,c.up,rfl,rfl,rfl,rfl,fun _ _=>⟨rfl,rfl⟩,fun _ ⟨j,hj,_⟩=>by omega⟩;refine(A9w (K:=K) (F:=fun j=>F j\/j=h.next) A hK (.inl fA) ⟨.inl fb.1,.inl fb.2.1,.inl fb.2.2.1,fb.2.2.2⟩ (d:=e) (by omega) hR (t:=h.next) (.inr rfl) (by omega) hT P K 0 h4 S (by omega) (by omega) M4 q0 Z (q.at hb hA) (J.at o O) aa).mono ?_;rintro _ h5 ⟨rfl,⟨T,M5,q5⟩,ab,c5,ad⟩;exact⟨rfl,⟨T,M5.less fun i=>.inl,q5⟩,ab,(Ext.to q).trans (c5.mono fun j hj=>hj.elim (fun y=>.inl fun z=>y (.inl z)) .inr),ad⟩
end
end Go.Ev
