import Derived.Test.YtadnemjjlacolaaGreatVb
import Derived.Test.YtadnemjjlacolaaGreatCa
import Derived.Test.YtadnemjjlacolaaGreatCc
import Derived.Test.YtadnemjjlacolaaGreatCb
set_option linter.all false
namespace Go.Ev
open Go.Proofs
set_option maxRecDepth 100000
variable {ps ps':Nat->List Int}{K d k n:Nat}{g:Gm}{p:Nat->Bool}{f Bt cur:Nat->Int}{S T:Mi}{F W:Nat->Prop}{X:Co}{mt:Int->Int}{L:List (List Nat)}{D:Jp}{h:Aa}{disp:Nat->Option FT}
theorem Arc(ps:Nat->List Int)(O1:Int)(n:Nat):(D6 ps O1 n = -1->∀d,d<n->(d:Int)=O1)/\(0<=D6 ps O1 n->D6 ps O1 n<n/\¬D6 ps O1 n=O1/\∀d,d<n->¬(d:Int)=O1->(ps d).length<=(ps (D6 ps O1 n).toNat).length):=by
 rcases Aoz ps O1 n with⟨a,b⟩|⟨o,e,i,j⟩
 ·exact⟨fun _=>b,fun y=>by omega⟩
 ·exact⟨fun y=>by omega,fun _=>⟨e,i,fun d hd hb=>(j d hd).resolve_left hb⟩⟩
theorem Y5(e:0<n)(k:Int):k<=Fh ps n↔2*k<=Nl ps n/\∀d,d<n->k+(ps d).length<=Nl ps n:=by
 obtain⟨i1,i2⟩:=Arc ps (-1) n;obtain⟨b1,b2,b3⟩:=Axj ps (-1) n;have a:0<=D6 ps (-1) n:=by
  rcases b3 with y|y
  ·have:=i1 y 0 e;omega
  ·exact y
 obtain⟨i,q,j⟩:=i2 a;have o:Am0 ps n (D6 ps (-1) n)=(ps (D6 ps (-1) n).toNat).length:=by
  unfold Am0;rw[aH ⟨a,i⟩]
 unfold Fh;rw[o];constructor
 ·intro h
  refine⟨by omega,fun d hd=>?_⟩;have:=j d hd (by omega);omega
 ·rintro⟨u,h2⟩
  have:=h2 (D6 ps (-1) n).toNat (by omega);omega
theorem Amt {ps:Nat->List Int}{d:Nat}{l:List Int}:∀n,(Nl (upd ps d l) n:Int)=Nl ps n+(if d<n then(l.length:Int)-(ps d).length else 0)
 | 0=>by unfold Nl;simp
 | n+1=>by
  rw[Il,Il];have ih:=Amt (ps:=ps) (d:=d) (l:=l) n;by_cases h:n=d
  ·subst h
   rw[aF (bO _)]at ih;rw[aH (aL _),show upd ps n l n=l from aH rfl];omega
  ·rw[show upd ps d l n=ps n from aF h]
   by_cases h2:d<n
   ·rw[aH h2]at ih;rw[aH (by omega)];omega
   ·rw[aF h2]at ih;rw[aF (by omega)];omega
theorem Aza {ps:Nat->List Int}{a b c:Nat}(e:a≠b)(i:a≠c)(j:b≠c):∀n,a<n->b<n->c<n->(ps a).length+(ps b).length+(ps c).length<=Nl ps n
 | 0,h,_,_=>absurd h (bm _)
 | n+1,u,hb,v=>by
  rw[Il];by_cases o:a=n
  ·subst o;have:=Atb (ps:=ps) j a (by omega) (by omega);omega
  ·by_cases h2:b=n
   ·subst h2;have:=Atb (ps:=ps) i b (by omega) (by omega);omega
   ·by_cases q:c=n
    ·subst q;have:=Atb (ps:=ps) e c (by omega) (by omega);omega
    ·have:=Aza (ps:=ps) e i j n (by omega) (by omega) (by omega);omega
theorem Aux:∀n,(∀d,d<n->(ps d).length<=(ps' d).length)->Nl ps n<=Nl ps' n
 | 0,_=>aE _
 | n+1,h=>by
  rw[Il,Il];have:=Aux n fun d hd=>h d (by omega)
  have:=h n (aL _);omega
theorem Aqx:∀n,d<n->(∀e,e<n->(ps e).length<=(ps' e).length)->Nl ps n+(ps' d).length<=Nl ps' n+(ps d).length
 | 0,h,_=>absurd h (bm _)
 | n+1,hd,h=>by
  rw[Il,Il];rcases cI.1 hd with y|y
  ·have:=Aqx n y fun e he=>h e (by omega)
   have:=h n (aL _);omega
  ·subst y
   have:=Aux (ps:=ps) (ps':=ps') d fun e he=>h e (by omega)
   omega
theorem Bas{x y:Int}{P:Int->Prop}(s:Sm g)(w:∀d,d<g.D.toNat->∀x∈ps d,Bo g x=d/\P x)(h:Aer ps g.D.toNat=some (x,y,ps')):Fh ps g.D.toNat-1<=Fh ps' g.D.toNat:=by
 obtain⟨a,b,q,hb,j,v,B,u,C,fb,_,_⟩:=Aix w h;have:=s.d0;obtain⟨_,E⟩:=Arc ps (-1) g.D.toNat;obtain⟨_,G⟩:=Arc ps a g.D.toNat;have o:=(E (by omega)).2.2;have mb:=(G (by omega)).2.2;rw[C]at o;rw[fb]at mb;simp only[bD]at o mb;have J:(ps a).length=(ps' a).length+1:=by rw[v];rfl
 have lb:(ps b).length=(ps' b).length+1:=by rw[B];rfl
 have e:∀d,(ps' d).length=(upd (upd ps a (ps' a)) b (ps' b) d).length:=fun d=>by
  unfold upd;by_cases i:d=b
  ·rw[aH i,i]
  ·rw[aF i]
   by_cases h2:d=a
   ·rw[aH h2,h2]
   ·rw[aF h2,u d h2 i]
 have es:Nl ps' g.D.toNat=Nl (upd (upd ps a (ps' a)) b (ps' b)) g.D.toNat:=by
  unfold Nl;congr 1;apply cW;intro d _;exact e d
 have s1:=Amt (ps:=upd ps a (ps' a)) (d:=b) (l:=ps' b) g.D.toNat;have s2:=Amt (ps:=ps) (d:=a) (l:=ps' a) g.D.toNat;rw[show upd ps a (ps' a) b=ps b from aF (cP j),aH hb]at s1;rw[aH q]at s2;obtain⟨p1,H⟩:=(Y5 (ps:=ps) (n:=g.D.toNat) (by omega) _).1 (cY (Fh ps g.D.toNat));refine(Y5 (by omega) _).2 ⟨by omega,fun d hd=>?_⟩;have O:=H d hd;by_cases i:d=a
 ·subst i;omega
 ·by_cases h2:d=b
  ·subst h2;omega
  ·rw[u d i h2]
   have m1:=o d hd (by omega);have m2:=mb d hd (by omega);have Q:(ps a).length+(ps b).length+(ps d).length<=Nl ps g.D.toNat:=Aza j (cP i) (cP h2) _ q hb hd;omega
theorem A8p(a:0<n)(h:∀d,d<n->(ps d).length<=(ps' d).length):Fh ps n<=Fh ps' n:=by
 obtain⟨p1,e⟩:=(Y5 (ps:=ps) a _).1 (cY (Fh ps n));refine(Y5 a _).2 ⟨?_,fun d hd=>?_⟩
 ·have:=Aux n h;omega
 ·have:=Aqx n hd h;have:=e d hd;omega
def cn(p:Nat->Bool):Nat->Nat
 | 0=>0
 | n+1=>cn p n+(if p n=true then 1 else 0)
theorem A8b {q:Nat->Bool}:∀n,(∀z,z<n->p z=true->q z=true)->cn p n<=cn q n
 | 0,_=>aE _
 | n+1,h=>by
  have e:=A8b n fun z i=>h z (by omega)
  have:=h n (aL _);unfold cn;split<;>split
  all_goals first|omega|(rename_i a b;exact absurd (this a) b)
theorem Ass {p q:Nat->Bool}:∀n,cn (fun z=>p z||q z) n<=cn p n+cn q n
 | 0=>aE _
 | n+1=>by
  have ih:=Ass (p:=p) (q:=q) n;unfold cn;cases p n<;>cases q n<;>simp<;>omega
theorem A36:∀n,(∀z,z<n->p z=true)->cn p n=n
 | 0,_=>rfl
 | n+1,h=>by
  unfold cn;rw[A36 n fun z a=>h z (by omega),aH (h n (aL _))]
theorem Bik(a:Int):∀n:Nat,cn (fun z=>decide ((z:Int)=a)) n<=if a<n then 1 else 0
 | 0=>by unfold cn;omega
 | n+1=>by
  have e:=Bik a n;unfold cn;by_cases h:(n:Int)=a
  ·rw[aH (aP h),aH (by omega)]
   rw[aF (by omega)]at e;omega
  ·rw[aF (by simpa using h)]
   split at e<;>split<;>omega
theorem Adr(n:Nat):∀l:List Int,cn (fun z=>decide ((z:Int)∈l)) n<=l.length
 | []=>by
  have:cn (fun z=>decide ((z:Int)∈([]:List Int))) n<=cn (fun _=>false) n:=A8b n fun z _ h=>by simp at h
  have z:∀n,cn (fun _=>false) n=0:=fun n=>by induction n with
   | zero=>rfl
   | succ n e=>unfold cn;rw[e];rfl
  rw[z]at this;exact this
 | a::l=>by
  have e:=Adr n l;have j:cn (fun z=>decide ((z:Int)∈a::l)) n<=cn (fun z=>decide ((z:Int)=a)||decide ((z:Int)∈l)) n:=A8b n fun z _ h=>by
   simp only[aU,bS]at h;simp only[dR,aU];exact h
  have h2:=Ass (p:=fun z=>decide ((z:Int)=a)) (q:=fun z=>decide ((z:Int)∈l)) n;have i:=Bik a n;rw[bF];split at i<;>omega
def sw(f:Nat->Int):Nat->Int
 | 0=>0
 | n+1=>sw f n+f n
theorem Bh4 {k:Nat->Int}:∀n,sw (fun z=>f z+k z) n=sw f n+sw k n
 | 0=>rfl
 | n+1=>by unfold sw;rw[Bh4 n];omega
theorem Bpc(x:Me)(n:Nat):sw (fun z=>Ut (z:Int) x) n<=2:=by
 have key:∀n,sw (fun z=>Ut (z:Int) x) n<=(cn (fun z=>decide ((z:Int)∈[x.Ah,x.Ay])) n:Nat):=fun n=>by
  induction n with
  | zero=>exact cY _
  | succ n e=>
   unfold sw cn Ut;split
   ·rename_i h
    rw[aH (by simp only[aU,bS,List.not_mem_nil,or_false];rcases h.2 with y|y;exact .inl y.symm;exact .inr y.symm)];unfold Ut at e;omega
   ·unfold Ut at e;split<;>omega
 have a:=key n;have b:=Adr n [x.Ah,x.Ay];have:([x.Ah,x.Ay]:List Int).length=2:=rfl;omega
theorem Bbz:∀(es:List Me) (n:Nat),sw (fun z=>Jt es (z:Int)) n<=2*es.length
 | [],n=>by
  have:∀n,sw (fun z=>Jt [] (z:Int)) n=0:=fun n=>by
   induction n with
   | zero=>rfl
   | succ n a=>unfold sw;rw[a];rfl
  rw[this];simp
 | x::es,n=>by
  have a:=Bbz es n;have e:(fun z:Nat=>Jt (x::es) (z:Int))=fun(z:Nat)=>Ut (z:Int) x+Jt es (z:Int):=by funext z;rfl
  rw[e,Bh4,bF];have:=Bpc x n;omega
theorem Bnc{k:Int}(h0:∀z,0<=f z):∀n,(∀z,z<n->p z=true->k<=2*f z)->k*(cn p n:Nat)<=2*sw f n
 | 0,_=>by unfold cn sw;simp
 | n+1,h=>by
  have a:=Bnc h0 n fun z e=>h z (by omega)
  have:=h n (aL _);have:=h0 n;unfold cn sw;split
  ·rename_i hp
   have:=h n (aL _) hp;rw[Int.natCast_add,Int.mul_add];simp;omega
  ·simp;omega
theorem Ax5(ps:Nat->List Int):∀n,((List.range n).flatMap ps).length=Nl ps n
 | 0=>rfl
 | n+1=>by rw[cb,List.flatMap_append,aG,Ax5 ps n,Il];simp
theorem Bdo(ps:Nat->List Int)(d:Nat):∀n,((List.range n).flatMap fun e=>if e=d then[]else ps e).length=Nl (upd ps d []) n:=fun n=>Ax5 (upd ps d []) n
theorem A42(E:rtB g=true){closed:Int->Bool}{es:List Me}{ar op:List Int}(la:ar.length<=6)(lo:op.length<=2)(J:∀d:Nat,d<g.D.toNat->(ar.filter fun z=>decide (¬Bo g z=d)).length<=2*(g.D-1).toNat)
 (cover:∀z:Int,0<=Bo g z->closed z=true\/z∈ps (Bo g z).toNat\/z∈ar\/z∈op) (full:∀z,closed z=true->g.S<2*Jt es z) (O:es.length=g.B.toNat) (few:Fh ps g.D.toNat<g.Dz):False:=by
 have s:=Oj E;have:=s.d0;have:=s.d1;have:=s.z0;have:=s.z1;have:=s.s0;have:=s.b0;have:=s.p0;have sg:2*g.B<=g.S*g.segments:=by
  unfold rtB at E;simp only[aV,aU]at E;exact E.2.2
 obtain⟨N,hN⟩:=a8 (dP (show 0<=g.D by omega) (show 0<=g.Z by omega));have C:∀z:Nat,z<N->0<=Bo g z/\Bo g z<g.D:=fun z u=>by
  rcases I9 s z with y|⟨a,b,_⟩
  ·unfold Bo at y
   rw[aF (by omega)]at y;have:0<=(z:Int)/g.Z:=Int.ediv_nonneg (by omega) (by omega);omega
  ·exact⟨a,b⟩
 have small:∀p:Nat->Bool,(∀z,z<N->p z=true->closed (z:Int)=true)->2*g.segments<=(cn p N:Nat)->False:=fun p hp Q=>by
  have h1:=Bnc (p:=p) (f:=fun z=>Jt es (z:Int)) (k:=g.S+1) (fun z=>(Ajk _ es).1) N fun z u y=>by have:=full z (hp z u y);omega
  have h2:=Bbz es N;rw[O]at h2;have h3:(g.S+1)*(2*g.segments)<=(g.S+1)*(cn p N:Nat):=bP Q (by omega);have h4:(g.S+1)*(2*g.segments)=2*(g.S*g.segments)+2*g.segments:=by rw[Int.add_mul,Int.mul_left_comm];omega
  have h5:0<g.segments:=by
   rcases gC 0 g.segments with y|y
   ·exact y
   ·have:=dP (show 0<=g.S by omega) (show 0<=-g.segments by omega)
    rw[Int.mul_neg]at this;omega
  omega
 have hs:2*g.segments<=g.least-2-2*(g.D*g.P):=by unfold Gm.segments;omega
 have U:0<=g.D*g.P:=dP (by omega) (by omega);have hP:g.P<=g.D*g.P:=by have:=eU (show 1<=g.D by omega) (show 0<=g.P by omega);omega
 have e1:g.D*(g.Z-g.P-2)=g.D*g.Z-g.D*g.P-2*g.D:=by rw[Int.mul_sub,Int.mul_sub];omega
 have e2:(g.D-1)*(g.Z-g.P-2)=g.D*g.Z-g.D*g.P-2*g.D-(g.Z-g.P-2):=by rw[Int.sub_mul,e1];omega
 have n0:¬(g.Dz<=Fh ps g.D.toNat):=by omega
 rw[Y5 (by omega)]at n0;by_cases c1:2*g.Dz<=Nl ps g.D.toNat
 ·
  obtain⟨d,hd,hc⟩:∃d,d<g.D.toNat/\(Nl ps g.D.toNat:Int)<g.Dz+(ps d).length:=by
   rcases fG (∃d,d<g.D.toNat/\(Nl ps g.D.toNat:Int)<g.Dz+(ps d).length)with y|y
   ·exact y
   ·refine absurd ⟨c1,fun d hd=>?_⟩ n0
    rcases gC (Nl ps g.D.toNat:Int) (g.Dz+(ps d).length)with z|z
    ·exact absurd ⟨d,hd,z⟩ y
    ·exact z
  let p:Nat->Bool:=fun z=>closed (z:Int)&&decide (¬Bo g z=d)
  let v:List Int:=(List.range g.Z.toNat).map fun(k:Nat)=>(d:Int)*g.Z+k
  let i:=(List.range g.D.toNat).flatMap fun e=>if e=d then[]else ps e
  let j:=ar.filter fun z=>decide (¬Bo g z=d)
  have all:cn (fun z=>p z||(decide ((z:Int)∈v)||(decide ((z:Int)∈i)||(decide ((z:Int)∈j)||decide ((z:Int)∈op))))) N=N:=A36 N fun z u=>by
   obtain⟨d0,d1⟩:=C z u;simp only[dR,aU];by_cases o:Bo g z=d
   ·refine .inr (.inl (cA.2 ⟨((z:Int)%g.Z).toNat,dK.2 ?_,?_⟩))
    ·have:=Int.emod_lt_of_pos (z:Int) (show 0<g.Z by omega)
     have:=Int.emod_nonneg (z:Int) (show g.Z≠0 by omega);omega
    ·rcases I9 s z with y|⟨_,_,y,_⟩
     ·omega
     ·have:=Int.emod_nonneg (z:Int) (show g.Z≠0 by omega)
      have:=Int.mul_ediv_add_emod (z:Int) g.Z;rw[<-o,y,Int.mul_comm];omega
   ·rcases cover z d0 with y|y|y|y
    ·exact .inl (by show(closed (z:Int)&&decide (¬Bo g z=d))=true;rw[y,aP o];rfl)
    ·refine .inr (.inr (.inl (List.mem_flatMap.2 ⟨(Bo g z).toNat,dK.2 (by omega),?_⟩)))
     rw[aF (by omega)];exact y
    ·exact .inr (.inr (.inr (.inl (dS.2 ⟨y,aP o⟩))))
    ·exact .inr (.inr (.inr (.inr y)))
  have o1:=Ass (p:=p) (q:=fun z=>decide ((z:Int)∈v)||(decide ((z:Int)∈i)||(decide ((z:Int)∈j)||decide ((z:Int)∈op)))) N;have V:=Ass (p:=fun z:Nat=>decide ((z:Int)∈v)) (q:=fun z=>decide ((z:Int)∈i)||(decide ((z:Int)∈j)||decide ((z:Int)∈op))) N;have Y:=Ass (p:=fun z:Nat=>decide ((z:Int)∈i)) (q:=fun z=>decide ((z:Int)∈j)||decide ((z:Int)∈op)) N;have o4:=Ass (p:=fun z:Nat=>decide ((z:Int)∈j)) (q:=fun z=>decide ((z:Int)∈op)) N;have m0:=Adr N v;have m1:=Adr N i;have m2:=Adr N j;have m3:=Adr N op;have l0:v.length=g.Z.toNat:=by simp[v]
  have l1:i.length=Nl (upd ps d []) g.D.toNat:=Bdo ps d _;have l2:j.length<=2*(g.D-1).toNat:=J d hd;have H:=Amt (ps:=ps) (d:=d) (l:=[]) g.D.toNat;rw[aH hd]at H;simp only[fF]at H;refine small p (fun z _ y=>(aV _ _▸y).1) ?_;have G:g.least<=(g.D-1)*(g.Z-g.P-2)-g.Dz+1:=by unfold Gm.least;omega
  omega
 ·
  let p:Nat->Bool:=fun z=>closed (z:Int)
  let i:=(List.range g.D.toNat).flatMap ps
  have all:cn (fun z=>p z||(decide ((z:Int)∈i)||(decide ((z:Int)∈ar)||decide ((z:Int)∈op)))) N=N:=A36 N fun z u=>by
   obtain⟨d0,d1⟩:=C z u;simp only[dR,aU];rcases cover z d0 with y|y|y|y
   ·exact .inl y
   ·exact .inr (.inl (List.mem_flatMap.2 ⟨(Bo g z).toNat,dK.2 (by omega),y⟩))
   ·exact .inr (.inr (.inl y))
   ·exact .inr (.inr (.inr y))
  have o1:=Ass (p:=p) (q:=fun z=>decide ((z:Int)∈i)||(decide ((z:Int)∈ar)||decide ((z:Int)∈op))) N;have V:=Ass (p:=fun z:Nat=>decide ((z:Int)∈i)) (q:=fun z=>decide ((z:Int)∈ar)||decide ((z:Int)∈op)) N;have Y:=Ass (p:=fun z:Nat=>decide ((z:Int)∈ar)) (q:=fun z=>decide ((z:Int)∈op)) N;have m1:=Adr N i;have m2:=Adr N ar;have m3:=Adr N op;have l1:i.length=Nl ps g.D.toNat:=Ax5 ps _;refine small p (fun z _ y=>y) ?_;have G:g.least<=g.D*(g.Z-g.P-2)-2*g.Dz+1:=by unfold Gm.least;omega
  omega
def arB(X:Co)(z:Int):Prop:=∃i,i<3/\(z=X.cur i\/z=X.Bt i)
structure A6m(S:Mi)(ep:Int)(x:Me)(bs:List Nat):Prop where
 ex:∃e:En,e.Wf/\e.bytes=bs/\¬e.kind=2/\EOk e ep x.seq/\x.sum=(E6 bs:Nat)/\(S.dr.dv.zs x.Ah.toNat).l[x.off.toNat]? = some (Akc e x.Ah x.Ay x.off ep x.seq)/\(S.dr.dv.zs x.Ay.toNat).l[x.off.toNat]? = some (Akc e x.Ay x.Ah x.off ep x.seq)
structure Jv(X:Co)(mt:Int->Int)(x:Me)(bs:List Nat):Prop where
 st:x.state=1
 ok:meB X.S.g x=true
 rc:A6m X.S X.ep x bs
 m1:mt x.Ah=x.Ay
 m2:mt x.Ay=x.Ah
 wh:(x.Ah=X.S.a/\x.Ay=X.S.b)\/(X.closed x.Ah=true/\X.closed x.Ay=true)
structure Cc(X:Co)(L:List (List Nat))(mt:Int->Int):Prop where
 c:Calm X.S
 un:X.st=false
 ar:∀i,i<3->Bo X.S.g (X.cur i)=i/\Bo X.S.g (X.Bt i)=i/\¬X.cur i=X.Bt i
 arz:∀z,arB X z->¬z=X.S.a/\¬z=X.S.b/\(∀d,d<X.S.g.D.toNat->z ∉ X.S.ps d)/\¬(X.S.dr.dv.zs z.toNat).st=1
 s2:∀i,i<X.S.dr.dv.n->(X.S.dr.dv.zs i).st<=2/\((X.S.dr.dv.zs i).st=0->(X.S.dr.dv.zs i).l = [])
 opm:¬X.S.a = -1->mt X.S.a=X.S.b/\mt X.S.b=X.S.a
 len:L.length=X.es.length
 lb:X.es.length=X.S.g.B.toNat
 Awn:∀(b:Nat) x bs,X.es[b]? = some x->L[b]? = some bs->(x=Me.nil 0/\bs=List.replicate 32 0)\/Jv X mt x bs
 sq:∀x∈X.es,x.seq<X.nx
 nm:0<=X.gen/\X.ep=1/\1<=X.nx
structure Dq(S T:Mi)(W:Nat->Prop):Prop where
 g:T.g=S.g
 bad:T.bad=S.bad
 ps:T.ps=S.ps
 o:T.a=S.a/\T.b=S.b/\T.u=S.u
 ev:T.dr.ev = []
 up:T.dr.dv.down=false
 hp:T.dr.Pp=S.dr.Pp
 n:T.dr.dv.n=S.dr.dv.n
 size:T.dr.dv.size=S.dr.dv.size
 op:T.dr.dv.op=S.dr.dv.op
 same:∀i,¬W i->(T.dr.dv.zs i).l=(S.dr.dv.zs i).l/\(T.dr.dv.zs i).st=(S.dr.dv.zs i).st
 Arp:∀i,W i->i<S.dr.dv.n->(T.dr.dv.zs i).st=0/\(T.dr.dv.zs i).l = []\/(T.dr.dv.zs i).st=2
theorem Dq.trans {U:Mi}{V:Nat->Prop}(a:Dq S T W)(b:Dq T U V):Dq S U fun i=>W i\/V i:=by
 refine⟨b.g.trans a.g,b.bad.trans a.bad,b.ps.trans a.ps,⟨b.o.1.trans a.o.1,b.o.2.1.trans a.o.2.1,b.o.2.2.trans a.o.2.2⟩,b.ev,b.up,b.hp.trans a.hp,b.n.trans a.n,b.size.trans a.size,b.op.trans a.op,fun i e=>?_,fun i e j=>?_⟩
 ·have x:=a.same i fun y=>e (.inl y)
  have y:=b.same i fun y=>e (.inr y)
  exact⟨y.1.trans x.1,y.2.trans x.2⟩
 ·rcases fG (V i)with v|v
  ·exact b.Arp i v (by rw[a.n];exact j)
  ·rw[(b.same i v).2,(b.same i v).1]
   exact a.Arp i (e.resolve_right v) j
theorem Dq.Q3(c:Calm S):Dq S S.Q3 fun _=>False:=⟨rfl,rfl,rfl,⟨rfl,rfl,rfl⟩,c.ev,c.up,rfl,rfl,rfl,rfl,fun _ _=>⟨rfl,rfl⟩,fun _ y=>y.elim⟩
theorem Dq.mk'(q:Dq S T W)(c:Calm S):Mk S T:=⟨q.g,⟨q.n,q.size,q.op,by rw[q.ev,c.ev,q.hp]⟩⟩
def Idle(S:Mi)(W:Nat->Prop):Prop:=∀z:Int,0<=Bo S.g z->W z.toNat->¬z=S.a/\¬z=S.b/\∀d,d<S.g.D.toNat->z ∉ S.ps d
theorem Calm.dq(c:Calm S)(q:Dq S T W)(id:Idle S W):Calm T:=by
 have s:=c.sm;have a:=q.g;refine⟨{ toWp:=⟨by rw[a];exact c.wf.sm,by rw[a,q.ps,q.bad];exact c.wf.ps⟩,op:=by rw[a,q.bad,q.o.1,q.o.2.1];exact c.wf.op },by rw[a];exact c.rt,q.ev,q.up,by rw[q.n,a];exact c.n,by rw[q.size,a];exact c.size,by rw[q.op,a];exact c.op,by rw[q.bad];exact c.bad,by rw[a,q.ps];exact c.nd,?_,?_,?_⟩
 ·rw[a,q.ps]
  intro d hd x e;have O:=(c.wf.ps d hd x e).1;have w:¬W x.toNat:=fun y=>(id x (by omega) y).2.2 d hd e
  rw[(q.same _ w).1,(q.same _ w).2];exact c.fr d hd x e
 ·rw[a,q.ps,q.o.1,q.o.2.1,q.o.2.2]
  rcases c.opn with y|⟨j,u,C,E,G,H,J⟩
  ·exact .inl y
  ·refine .inr ⟨j,u,C,E,G,H,fun z v=>?_⟩
   have w:¬W z.toNat:=fun y=>by
    rcases v with rfl|rfl
    ·exact(id _ j y).1 rfl
    ·exact(id _ u y).2.1 rfl
   rw[(q.same _ w).1,(q.same _ w).2];exact J z v
 ·rw[q.n,q.o.1,q.o.2.1]
  intro i B hs;rcases fG (W i)with w|w
  ·have:=q.Arp i w B
   omega
  ·rw[(q.same i w).2]at hs
   exact c.few i B hs
theorem Ol(q:Dq X.S T W)(z:Int):({ X with S:=T }:Co).closed z=X.closed z:=by
 unfold Co.closed Mi.Ex;simp only[q.g,q.bad,q.ps,q.o.1,q.o.2.1]
theorem A6m.dq(q:Dq S T W){ep:Int}{x:Me}{bs:List Nat}(r:A6m S ep x bs)(a:¬W x.Ah.toNat)(h2:¬W x.Ay.toNat):A6m T ep x bs:=by
 obtain⟨e,i,j,o,u,v,B,C⟩:=r.ex;exact⟨e,i,j,o,u,v,by rw[(q.same _ a).1];exact B,by rw[(q.same _ h2).1];exact C⟩
theorem At9{x:Me}(h:meB g x=true):Sk g x.Ah x.off=true/\Sk g x.Ay x.off=true/\¬Bo g x.Ah=Bo g x.Ay/\(1<=x.seq/\x.seq<=281474976710655)/\0<=x.sum/\x.sum<=4294967295:=by
 unfold meB at h;simp only[aV,aU]at h;exact⟨h.1,h.2.1,h.2.2.1,⟨h.2.2.2.1,h.2.2.2.2.1⟩,h.2.2.2.2.2.1,h.2.2.2.2.2.2⟩
theorem Yt{z off:Int}(h:Sk g z off=true):0<=Bo g z/\0<=off/\off<g.S:=by
 unfold Sk at h;simp only[aV,Ec]at h;refine⟨?_,h.2.2.1,by omega⟩;unfold Bo;rw[aF (by omega)];have:=(Oj h.1).z0;exact Int.ediv_nonneg (by omega) (by omega)
theorem Jv.Zq{x:Me}{bs:List Nat}(l:Jv X mt x bs):0<=Bo X.S.g x.Ah/\0<=Bo X.S.g x.Ay:=by
 obtain⟨a,b,_⟩:=At9 l.ok;exact⟨(Yt a).1,(Yt b).1⟩
theorem Ew{z:Int}:X.closed z=true↔0<=Bo X.S.g z/\¬z=X.S.a/\¬z=X.S.b/\X.S.Ex z=false/\Xb X.cur X.Bt z=false/\hasB X.S.ps X.S.g.D.toNat z=false:=by
 unfold Co.closed;simp only[aV,aU,Bool.not_eq_true']
theorem Asr{z:Int}:Xb cur Bt z=true↔∃i,i<3/\((¬cur i = -1/\z=cur i)\/(¬Bt i = -1/\z=Bt i)):=by
 have e:∀x:Int,Sp x z=true↔¬x = -1/\z=x:=fun x=>by
  unfold Sp;simp only[aV,aU];exact⟨fun y=>⟨y.1,y.2.symm⟩,fun y=>⟨y.1,y.2.symm⟩⟩
 have st:Xb cur Bt z=(((false||(Sp (cur 0) z||Sp (Bt 0) z))||(Sp (cur 1) z||Sp (Bt 1) z))||(Sp (cur 2) z||Sp (Bt 2) z)):=rfl;rw[st];simp only[dR,e,aX,false_or];constructor
 ·rintro((h|h)|h)
  ·exact⟨0,by omega,h⟩
  ·exact⟨1,by omega,h⟩
  ·exact⟨2,by omega,h⟩
 ·rintro⟨i,a,h⟩
  rcases i with _|_|_|i
  ·exact .inl (.inl h)
  ·exact .inl (.inr h)
  ·exact .inr h
  ·omega
theorem Cc.Xb(C:Cc X L mt)(z:Int):Go.Ev.Xb X.cur X.Bt z=true↔arB X z:=by
 rw[Asr];constructor
 ·rintro⟨i,e,h⟩
  exact⟨i,e,h.elim (fun y=>.inl y.2) fun y=>.inr y.2⟩
 ·rintro⟨i,e,h⟩
  obtain⟨a,b,_⟩:=C.ar i e;have j:∀w:Int,Bo X.S.g w=i->¬w = -1:=fun w hw y=>by
   have:=Je C.c.sm (z:=w) (by omega);omega
  exact⟨i,e,h.elim (fun y=>.inl ⟨j _ a,y⟩) fun y=>.inr ⟨j _ b,y⟩⟩
theorem Cc.Ex(C:Cc X L mt)(z:Int):X.S.Ex z=false:=by
 unfold Mi.Ex;rw[aO (C.c.bad _),cr]
theorem Cc.cover(C:Cc X L mt){z:Int}(j:0<=Bo X.S.g z):X.closed z=true\/z∈X.S.ps (Bo X.S.g z).toNat\/arB X z\/z=X.S.a\/z=X.S.b:=by
 by_cases e:z=X.S.a
 ·exact .inr (.inr (.inr (.inl e)))
 by_cases h2:z=X.S.b
 ·exact .inr (.inr (.inr (.inr h2)))
 cases i:Go.Ev.Xb X.cur X.Bt z with
 | true=>exact .inr (.inr (.inl ((C.Xb z).1 i)))
 | false=>
 cases h4:hasB X.S.ps X.S.g.D.toNat z with
 | true=>
  obtain⟨d,hd,hm⟩:=Is.1 h4;have:=(C.c.wf.ps d hd z hm).1;refine .inr (.inl ?_);rw[this];exact hm
 | false=>exact .inl (Ew.2 ⟨j,e,h2,C.Ex z,i,h4⟩)
theorem Cc.dq(C:Cc X L mt)(q:Dq X.S T W)(id:Idle X.S W)(lv:∀x∈X.es,x.state=1->¬W x.Ah.toNat/\¬W x.Ay.toNat):Cc { X with S:=T } L mt:=by
 have v:=C.c.dq q id;have H:T.g.B=X.S.g.B:=by rw[q.g]
 refine⟨v,C.un,by show ∀i,i<3->Bo T.g _=_/\Bo T.g _=_/\_;rw[q.g];exact C.ar,fun z j=>?_,fun i e=>?_,by show ¬T.a = -1->mt T.a=T.b/\mt T.b=T.a;rw[q.o.1,q.o.2.1];exact C.opm,C.len,by show X.es.length=T.g.B.toNat;rw[q.g];exact C.lb,fun b x bs u E=>?_,C.sq,C.nm⟩
 ·have:=C.arz z j
  show ¬z=T.a/\¬z=T.b/\(∀d,d<T.g.D.toNat->z ∉ T.ps d)/\¬(T.dr.dv.zs z.toNat).st=1;rw[q.o.1,q.o.2.1,q.g,q.ps];refine⟨this.1,this.2.1,this.2.2.1,fun y=>?_⟩;obtain⟨i,e,h⟩:=j;have hd:0<=Bo X.S.g z:=by
   obtain⟨a,b,_⟩:=C.ar i e;rcases h with h|h
   ·rw[show z=X.cur i from h];omega
   ·rw[show z=X.Bt i from h];omega
  obtain⟨_,G,_⟩:=Sn C.c hd;rcases fG (W z.toNat)with w|w
  ·have:=q.Arp _ w G;omega
  ·rw[(q.same _ w).2]at y;exact this.2.2.2 y
 ·have e:i<T.dr.dv.n:=e
  rw[q.n]at e;show(T.dr.dv.zs i).st<=2/\((T.dr.dv.zs i).st=0->(T.dr.dv.zs i).l = []);rcases fG (W i)with w|w
  ·rcases q.Arp _ w e with y|y
   ·exact⟨by omega,fun _=>y.2⟩
   ·exact⟨by omega,fun z=>by omega⟩
  ·rw[(q.same _ w).2,(q.same _ w).1];exact C.s2 i e
 ·rcases C.Awn b x bs u E with y|y
  ·exact .inl y
  ·obtain⟨w1,w2⟩:=lv x (bU u) y.st
   refine .inr ⟨y.st,by show meB T.g x=true;rw[q.g];exact y.ok,y.rc.dq q w1 w2,y.m1,y.m2,?_⟩;rw[Ol q,Ol q];show(x.Ah=T.a/\x.Ay=T.b)\/_;rw[q.o.1,q.o.2.1];exact y.wh
section
def Mi.room(S:Mi):Int:=if S.a = -1 then 0 else S.g.S-S.u
def Mi.free(S:Mi):Int:=S.g.S*Fh S.ps S.g.D.toNat+S.room
theorem Calm.Atn(c:Calm S):0<=S.room/\S.room<=S.g.S/\(¬Roomy S->S.room=0)/\(Roomy S->S.room=S.g.S-S.u):=by
 have:=c.sm.s0;unfold Mi.room Roomy;rcases c.opn with y|⟨_,_,_,e,i,_⟩
 ·rw[aH y.1];exact⟨by omega,by omega,fun _=>rfl,fun z=>absurd y.1 z.1⟩
 ·by_cases h:S.a = -1
  ·rw[aH h];exact⟨by omega,by omega,fun _=>rfl,fun z=>absurd h z.1⟩
  ·rw[aF h];exact⟨by omega,by omega,fun z=>by have:¬S.u<S.g.S:=fun w=>z ⟨h,w⟩;omega,fun _=>rfl⟩
theorem Bab(c:Calm S)(h:1<=S.free):∃T,S.Aqd=some T:=by
 unfold Mi.Aqd;by_cases r:Roomy S
 ·rw[aH r];exact⟨S,rfl⟩
 ·rw[aF r]
  have a:=(c.Atn).2.2.1 r;have hp:¬Fh S.ps S.g.D.toNat=0:=fun y=>by
   unfold Mi.free at h;rw[y,a,Int.mul_zero]at h;omega
  unfold Aer;rw[aF hp];exact⟨_,rfl⟩
theorem Cc.opened(C:Cc X L mt)(h:X.S.Aqd=some T):∃mt',Cc { X with S:=T } L mt'/\X.S.free<=T.free/\Roomy T/\T.g=X.S.g/\(∀z,0<=Bo X.S.g z->X.closed z=true->({ X with S:=T }:Co).closed z=true)/\(∀x∈X.es,x.state=1->mt' x.Ah=mt x.Ah/\mt' x.Ay=mt x.Ay):=by
 have P:=A7l C.c h;have s:=C.c.sm;unfold Mi.Aqd at h;by_cases r:Roomy X.S
 ·rw[aH r]at h
  cases h;exact⟨mt,C,cY _,r,rfl,fun _ _ y=>y,fun _ _ _=>⟨rfl,rfl⟩⟩
 rw[aF r]at h;cases hp:Aer X.S.ps X.S.g.D.toNat with
 | none=>rw[hp]at h;cases h
 | some t=>
 obtain⟨x,y,ps'⟩:=t;rw[hp]at h;cases h;have tk:=Bas s C.c.wf.ps hp;obtain⟨i,j,hi,hj,aq,ex,ey,ek,_,_,dx,dy⟩:=Aix C.c.wf.ps hp;have mx:x∈X.S.ps i:=by rw[ex];exact aW ..
 have my:y∈X.S.ps j:=by rw[ey];exact aW ..
 have V:¬x=y:=fun e=>by rw[e]at dx;omega
 have sub:∀d z,z∈ps' d->z∈X.S.ps d:=fun d z o=>by
  by_cases v:d=i
  ·subst v;rw[ex];exact aR _ o
  ·by_cases h2:d=j
   ·subst h2;rw[ey];exact aR _ o
   ·rw[<-ek d v h2];exact o
 have hB:∀z,hasB X.S.ps X.S.g.D.toNat z=false->hasB ps' X.S.g.D.toNat z=false/\¬z=x/\¬z=y:=fun z o=>by
  refine⟨?_,fun e=>?_,fun e=>?_⟩
  ·cases G:hasB ps' X.S.g.D.toNat z with
   | false=>rfl
   | true=>
    obtain⟨d,hd,hm⟩:=Is.1 G;rw[Is.2 ⟨d,hd,sub d z hm⟩]at o;exact o
  ·rw[Is.2 ⟨i,hi,by rw[e];exact mx⟩]at o;cases o
  ·rw[Is.2 ⟨j,hj,by rw[e];exact my⟩]at o;cases o
 let T:Mi:={ X.S.Q3 with ps:=ps',a:=x,b:=y,u:=0 }
 have B:∀z,X.closed z=true->({ X with S:=T }:Co).closed z=true/\¬z=x/\¬z=y:=fun z o=>by
  obtain⟨Q,Y,E,H,Z,a6⟩:=Ew.1 o;obtain⟨b1,b2,b3⟩:=hB z a6;exact⟨Ew.2 ⟨Q,b2,b3,H,Z,b1⟩,b2,b3⟩
 have J:∀z,(z=X.S.a\/z=X.S.b)->0<=Bo X.S.g z->({ X with S:=T }:Co).closed z=true/\¬z=x/\¬z=y:=fun z o hd=>by
  rcases C.c.opn with w|⟨w1,w2,_,_,_,w6,_⟩
  ·have:=Je s hd;rcases o with rfl|rfl<;>omega
  have nb:hasB X.S.ps X.S.g.D.toNat z=false:=by
   cases G:hasB X.S.ps X.S.g.D.toNat z with
   | false=>rfl
   | true=>
    obtain⟨d,O,hm⟩:=Is.1 G;rcases o with rfl|rfl
    ·exact absurd hm (w6 d O).1
    ·exact absurd hm (w6 d O).2
  obtain⟨b1,b2,b3⟩:=hB z nb;refine⟨Ew.2 ⟨hd,b2,b3,C.Ex z,?_,b1⟩,b2,b3⟩;cases G:Go.Ev.Xb X.cur X.Bt z with
  | false=>rfl
  | true=>
   have:=C.arz z ((C.Xb z).1 G);rcases o with rfl|rfl
   ·exact absurd rfl this.1
   ·exact absurd rfl this.2.1
 let mt':Int->Int:=fun z=>if z=x then y else if z=y then x else mt z
 have U:∀z,¬z=x->¬z=y->mt' z=mt z:=fun z v h2=>by show(if z=x then y else if z=y then x else mt z)=_;rw[aF v,aF h2]
 have lz:∀q bs,Jv X mt q bs->(({ X with S:=T }:Co).closed q.Ah=true/\¬q.Ah=x/\¬q.Ah=y)/\(({ X with S:=T }:Co).closed q.Ay=true/\¬q.Ay=x/\¬q.Ay=y):=fun q bs l=>by
  obtain⟨d1,d2⟩:=l.Zq;rcases l.wh with⟨w1,w2⟩|⟨w1,w2⟩
  ·exact⟨J _ (.inl w1) d1,J _ (.inr w2) d2⟩
  ·exact⟨B _ w1,B _ w2⟩
 refine⟨mt',⟨P.1,C.un,C.ar,fun z o=>?_,C.s2,fun _=>⟨?_,?_⟩,C.len,C.lb,fun b q bs hx hl=>?_,C.sq,C.nm⟩,?_,P.2.1,rfl,fun z _ o=>(B z o).1,fun q ab v=>?_⟩
 ·obtain⟨Q,Y,E,H⟩:=C.arz z o
  exact⟨fun e=>E i hi (by rw[e];exact mx),fun e=>E j hj (by rw[e];exact my),fun d hd hm=>E d hd (sub d z hm),H⟩
 ·show(if x=x then y else _)=y;rw[aH rfl]
 ·show(if y=x then y else if y=y then x else mt y)=x;rw[aF (cP V),aH rfl]
 ·rcases C.Awn b q bs hx hl with w|w
  ·exact .inl w
  ·obtain⟨⟨c1,n1,n2⟩,c2,n3,n4⟩:=lz q bs w
   obtain⟨e,Q,Y,E,H,Z,a6,a7⟩:=w.rc.ex;exact .inr ⟨w.st,w.ok,⟨e,Q,Y,E,H,Z,a6,a7⟩,by rw[U _ n1 n2];exact w.m1,by rw[U _ n3 n4];exact w.m2,.inr ⟨c1,c2⟩⟩
 ·have hr:=(C.c.Atn).2.2.1 r
  show X.S.g.S*Fh X.S.ps X.S.g.D.toNat+X.S.room<=X.S.g.S*Fh ps' X.S.g.D.toNat+T.room;have:T.room=X.S.g.S:=by
   have:=(P.1.Atn).2.2.2 P.2.1;rw[this];show X.S.g.S-0=_;omega
  rw[this,hr];have:=s.s0;have:=bP tk (show 0<=X.S.g.S by omega);rw[Int.mul_sub,Int.mul_one]at this;omega
 ·obtain⟨b,hb⟩:=cV.1 ab
  have af:b<L.length:=by rw[C.len];exact(aY.1 hb).1
  rcases C.Awn b q _ hb (aD af)with w|w
  ·rw[w.1]at v;cases v
  ·obtain⟨⟨_,n1,n2⟩,_,n3,n4⟩:=lz q _ w
   exact⟨U _ n1 n2,U _ n3 n4⟩
theorem Cc.Tn(C:Cc X L mt)(r:Roomy X.S){e:En}(we:e.Wf)(he:EOk e X.ep X.nx):Cc { X with S:=X.S.Tn e X.ep X.nx,nx:=X.nx+1 } L mt/\(X.S.Tn e X.ep X.nx).free=X.S.free-1 /\
 (¬e.kind=2->A6m (X.S.Tn e X.ep X.nx) X.ep ⟨1,X.S.a,X.S.b,X.S.u,X.nx,(E6 e.bytes:Nat)⟩ e.bytes):=by
 have ca:=C.c.Tn r e X.ep X.nx;obtain⟨n1,n2,n3,n4,n5,n6,Y⟩:=C.c.ne r;obtain⟨la,sa⟩:=Y _ (.inl rfl);obtain⟨lb,sb⟩:=Y _ (.inr rfl);have H:((X.S.Tn e X.ep X.nx).dr.dv.zs X.S.a.toNat)=(X.S.dr.dv.zs X.S.a.toNat).app X.S.dr.dv.size (Akc e X.S.a X.S.b X.S.u X.ep X.nx):=by
  show H6 (H6 X.S.dr.dv.zs X.S.a.toNat _) X.S.b.toNat _ X.S.a.toNat=_;unfold H6;rw[aF n5,aH rfl]
 have J:((X.S.Tn e X.ep X.nx).dr.dv.zs X.S.b.toNat)=(X.S.dr.dv.zs X.S.b.toNat).app X.S.dr.dv.size (Akc e X.S.b X.S.a X.S.u X.ep X.nx):=by
  show H6 (H6 X.S.dr.dv.zs X.S.a.toNat _) X.S.b.toNat _ X.S.b.toNat=_;unfold H6;rw[aH rfl]
 have O:∀i,i≠X.S.a.toNat->i≠X.S.b.toNat->((X.S.Tn e X.ep X.nx).dr.dv.zs i)=X.S.dr.dv.zs i:=fun i j h2=>by
  show H6 (H6 X.S.dr.dv.zs X.S.a.toNat _) X.S.b.toNat _ i=_;unfold H6;rw[aF h2,aF j]
 have Ju:∀(i o:Nat) v,(X.S.dr.dv.zs i).l[o]? = some v->((X.S.Tn e X.ep X.nx).dr.dv.zs i).l[o]? = some v:=fun i o v B=>by
  have Z:=(aY.1 B).1;by_cases j:i=X.S.a.toNat
  ·subst j;rw[H];simp only[Zn.app];rw[bX Z];exact B
  ·by_cases h2:i=X.S.b.toNat
   ·subst h2;rw[J];simp only[Zn.app];rw[bX Z];exact B
   ·rw[O i j h2];exact B
 have q:∀i,(((X.S.Tn e X.ep X.nx).dr.dv.zs i).st<=2/\¬((X.S.Tn e X.ep X.nx).dr.dv.zs i).st=0)\/((X.S.Tn e X.ep X.nx).dr.dv.zs i)=X.S.dr.dv.zs i:=fun i=>by
  by_cases j:i=X.S.a.toNat
  ·subst j;left;rw[H];simp only[Zn.app];split<;>omega
  ·by_cases h2:i=X.S.b.toNat
   ·subst h2;left;rw[J];simp only[Zn.app];split<;>omega
   ·exact .inr (O i j h2)
 refine⟨⟨ca,C.un,C.ar,fun z hz=>?_,fun i P=>?_,C.opm,C.len,C.lb,fun b x bs Q hl=>?_,fun x Q=>?_,⟨C.nm.1,C.nm.2.1,?_⟩⟩,?_,fun hk=>?_⟩
 ·obtain⟨E,G,U,V⟩:=C.arz z hz
  refine⟨E,G,U,?_⟩;obtain⟨i,P,h⟩:=hz;have hd:0<=Bo X.S.g z:=by
   obtain⟨a,b,_⟩:=C.ar i P;rcases h with h|h
   ·rw[show z=X.cur i from h];omega
   ·rw[show z=X.Bt i from h];omega
  show ¬((X.S.Tn e X.ep X.nx).dr.dv.zs z.toNat).st=1;rw[O _ (fun y=>E (T9 C.c.sm hd n1 y)) (fun y=>G (T9 C.c.sm hd n2 y))];exact V
 ·rcases q i with y|y
  ·exact⟨y.1,fun z=>absurd z y.2⟩
  ·show((X.S.Tn e X.ep X.nx).dr.dv.zs i).st<=2/\(((X.S.Tn e X.ep X.nx).dr.dv.zs i).st=0->((X.S.Tn e X.ep X.nx).dr.dv.zs i).l = [])
   rw[y];exact C.s2 i P
 ·rcases C.Awn b x bs Q hl with w|w
  ·exact .inl w
  ·obtain⟨e',E,G,U,V,a5,a6,a7⟩:=w.rc.ex
   exact .inr ⟨w.st,w.ok,⟨e',E,G,U,V,a5,Ju _ _ _ a6,Ju _ _ _ a7⟩,w.m1,w.m2,w.wh⟩
 ·have:=C.sq x Q
  show x.seq<X.nx+1;omega
 ·show 1<=X.nx+1;have:=C.nm.2.2;omega
 ·have j:=(C.c.Atn).2.2.2 r
  unfold Mi.free;have h2:(X.S.Tn e X.ep X.nx).room=X.S.g.S-(X.S.u+1):=by
   show(if X.S.a = -1 then 0 else X.S.g.S-(X.S.u+1))=_;rw[aF r.1]
  rw[j,h2];show X.S.g.S*Fh X.S.ps X.S.g.D.toNat+_=_;omega
 ·refine⟨e,we,rfl,hk,he,rfl,?_,?_⟩
  ·show((X.S.Tn e X.ep X.nx).dr.dv.zs X.S.a.toNat).l[X.S.u.toNat]? = _
   rw[H];simp only[Zn.app];rw[bR (by omega),show X.S.u.toNat-(X.S.dr.dv.zs X.S.a.toNat).l.length=0 by omega];rfl
  ·show((X.S.Tn e X.ep X.nx).dr.dv.zs X.S.b.toNat).l[X.S.u.toNat]? = _
   rw[J];simp only[Zn.app];rw[bR (by omega),show X.S.u.toNat-(X.S.dr.dv.zs X.S.b.toNat).l.length=0 by omega];rfl
theorem Cc.set(C:Cc X L mt){j:Nat}(hj:j<X.es.length){x:Me}{bs:List Nat}(u:(x=Me.nil 0/\bs=List.replicate 32 0)\/Jv X mt x bs)(hs:x.seq<X.nx):Cc { X with es:=X.es.set j x } (L.set j bs) mt:=by
 refine⟨C.c,C.un,C.ar,C.arz,C.s2,C.opm,by show(L.set j bs).length=(X.es.set j x).length;rw[bM,bM];exact C.len,by show(X.es.set j x).length=_;rw[bM];exact C.lb,fun b y q a i=>?_,fun y a=>?_,C.nm⟩
 ·have a:(X.es.set j x)[b]? = some y:=a
  have up:∀{o:Me} {e:List Nat},Jv X mt o e->Jv { X with es:=X.es.set j x } mt o e:=fun w=>⟨w.st,w.ok,w.rc,w.m1,w.m2,w.wh⟩
  rw[dH]at a i;by_cases h:j=b
  ·subst h
   rw[aH rfl,aH hj]at a;rw[aH rfl,aH (by rw[C.len];exact hj)]at i;cases a;cases i;exact u.imp id up
  ·rw[aF h]at a i
   exact(C.Awn b y q a i).imp id up
 ·rcases cm a with o|rfl
  ·exact C.sq y o
  ·exact hs
end
section
structure Fd(S0 D:Jp)(z:Int)(k:Nat):Prop where
 ev:D.ev = []
 up:D.dv.down=false
 hp:D.Pp=S0.Pp
 n:D.dv.n=S0.dv.n
 size:D.dv.size=S0.dv.size
 op:D.dv.op=S0.dv.op
 same:∀i:Nat,¬i=z.toNat->D.dv.zs i=S0.dv.zs i
 here:(D.dv.zs z.toNat).l.length=k/\(D.dv.zs z.toNat).st=if k=S0.dv.size then 2 else if k=0 then 0 else 1
structure Tz(S:Mi)(z:Int):Prop where
 c:Calm S
 d:0<=Bo S.g z
 st:(S.dr.dv.zs z.toNat).st=0/\(S.dr.dv.zs z.toNat).l = []\/(S.dr.dv.zs z.toNat).st=2
theorem Ay3 {zs:Nat->Zn}{l:List Int}:∀n,(∀i,i<n->(zs i).st=1->(i:Int)∈l)->Ra zs n<=cn (fun i=>decide ((i:Int)∈l)) n
 | 0,_=>aE _
 | n+1,h=>by
  rw[Ary];have e:=Ay3 n fun i j=>h i (by omega)
  unfold cn;by_cases a:(zs n).st=1
  ·rw[aH a,aH (aP (h n (aL _) a))];omega
  ·rw[aF a];omega
section
variable{z:Int}(t:Tz S z)
include t
theorem Tz.pos:0<S.dr.dv.size:=by have:=t.c.sm.s0;have:=t.c.size;omega
theorem Tz.has(f:Fd S.dr D z k):D.dv.has z=true:=by
 obtain⟨a,b,_⟩:=Sn t.c t.d;unfold Dv.has;rw[f.n];exact aP ⟨a,by omega⟩
theorem Bh7(h:(S.dr.dv.zs z.toNat).st=0):Fd S.dr S.dr z 0:=by
 have:=t.pos;refine⟨t.c.ev,t.c.up,rfl,rfl,rfl,rfl,fun _ _=>rfl,?_⟩;rcases t.st with y|y
 ·rw[y.2,y.1,aF (by omega),aH rfl];exact⟨rfl,rfl⟩
 ·omega
theorem A70:(S.dr.reset z).2=0/\Fd S.dr (S.dr.reset z).1 z 0:=by
 obtain⟨a,b,o,_⟩:=Sn t.c t.d;have hs:=t.pos;have be:=Agw t.c.up o;have j:Ks (S.dr.dv.zs z.toNat).st=0:=by
  rcases t.st with⟨y,_⟩|y<;>rw[y]<;>rfl
 unfold Jp.reset;rw[Yy t.c.ev];unfold Dv.reset;rw[aF (by rw[be];exact fun y=>y rfl),aH j,j];refine⟨rfl,t.c.ev,t.c.up,rfl,rfl,rfl,rfl,fun i q=>?_,?_⟩
 ·show H6 S.dr.dv.zs z.toNat Zn.empty i=_
  unfold H6;rw[aF q]
 ·have e:((S.dr.dv.tick.set z.toNat Zn.empty).zs z.toNat)=Zn.empty:=by
   show H6 S.dr.dv.zs z.toNat Zn.empty z.toNat=_;unfold H6;rw[aH rfl]
  show((S.dr.dv.tick.set z.toNat Zn.empty).zs z.toNat).l.length=0/\((S.dr.dv.tick.set z.toNat Zn.empty).zs z.toNat).st=_;rw[e,aF (by omega),aH rfl];exact⟨rfl,rfl⟩
theorem Bcs(f:Fd S.dr D z k)(C:k<S.dr.dv.size)(x:List EV):(D.append z x).2=((k:Int),0)/\Fd S.dr (D.append z x).1 z (k+1):=by
 have u:=t.has f;obtain⟨o,q⟩:=f.here;have h2:(D.dv.zs z.toNat).st<2:=by rw[q,aF (by omega)];split<;>omega
 have v:¬D.dv.op<=Ra D.dv.zs D.dv.n:=by
  have h0:=Je t.c.sm t.d;have E:=Ay3 (zs:=D.dv.zs) (l:=[S.a,S.b,z]) D.dv.n fun i B y=>by
   simp only[bS,List.not_mem_nil,or_false];by_cases e:i=z.toNat
   ·exact .inr (.inr (by omega))
   ·rw[f.same i e]at y
    rcases t.c.few i (by rw[<-f.n];exact B) y with w|w
    ·exact .inl w
    ·exact .inr (.inl w)
  have h2:=Adr D.dv.n [S.a,S.b,z];have G:([S.a,S.b,z]:List Int).length=3:=rfl;have:=t.c.sm.o0;have h4:=f.op;have H:=t.c.op;omega
 unfold Jp.append;rw[Yy f.ev,Awd f.up u h2 v];have e2:((D.dv.tick.set z.toNat ((D.dv.zs z.toNat).app D.dv.size x)).zs z.toNat)=(D.dv.zs z.toNat).app D.dv.size x:=by
  show H6 D.dv.zs z.toNat _ z.toNat=_;unfold H6;rw[aH rfl]
 refine⟨by rw[o],f.ev,f.up,f.hp,f.n,f.size,f.op,fun i j=>?_,?_⟩
 ·show H6 D.dv.zs z.toNat _ i=_
  unfold H6;rw[aF j];exact f.same i j
 ·show((D.dv.tick.set z.toNat ((D.dv.zs z.toNat).app D.dv.size x)).zs z.toNat).l.length=k+1/\((D.dv.tick.set z.toNat ((D.dv.zs z.toNat).app D.dv.size x)).zs z.toNat).st=_
  rw[e2];unfold Zn.app;refine⟨by simp[o],?_⟩;show(if(D.dv.zs z.toNat).l.length+1=D.dv.size then 2 else 1)=_;rw[o,f.size];split
  ·rfl
  ·rw[aF (by omega)]
theorem Bne(f:Fd S.dr D z k)(h:(D.dv.zs z.toNat).st=2\/k=0):Dq S { S with dr:=D } fun i=>i=z.toNat:=by
 refine⟨rfl,rfl,rfl,⟨rfl,rfl,rfl⟩,f.ev,f.up,f.hp,f.n,f.size,f.op,fun i e=>?_,fun i e _=>?_⟩
 ·show(D.dv.zs i).l=_/\(D.dv.zs i).st=_
  rw[f.same i e];exact⟨rfl,rfl⟩
 ·subst e
  rcases h with h|h
  ·exact .inr h
  ·subst h
   have hs:=t.pos;obtain⟨a,b⟩:=f.here;rw[aF (by omega),aH rfl]at b;exact .inl ⟨b,cj a⟩
theorem Bff(f:Fd S.dr D z k):(D.finish z).2=0/\Dq S { S with dr:=(D.finish z).1 } fun i=>i=z.toNat:=by
 have o:=t.has f;have be:=Agw f.up o;obtain⟨q,e⟩:=f.here;have j:Ks (D.dv.zs z.toNat).st=0:=by
  rw[e];split
  ·rfl
  ·split<;>rfl
 unfold Jp.finish;rw[Yy f.ev];unfold Dv.finish;rw[aF (by rw[be];exact fun y=>y rfl),aH j,j];refine⟨rfl,rfl,rfl,rfl,⟨rfl,rfl,rfl⟩,f.ev,f.up,f.hp,f.n,f.size,f.op,fun i a=>?_,fun i a _=>?_⟩
 ·have e1:((D.dv.tick.set z.toNat (D.dv.zs z.toNat).finish).zs i)=D.dv.zs i:=by
   show H6 D.dv.zs z.toNat _ i=_;unfold H6;rw[aF a]
  show((D.dv.tick.set z.toNat (D.dv.zs z.toNat).finish).zs i).l=_/\((D.dv.tick.set z.toNat (D.dv.zs z.toNat).finish).zs i).st=_;rw[e1,f.same i a];exact⟨rfl,rfl⟩
 ·subst a
  right;show((D.dv.tick.set z.toNat (D.dv.zs z.toNat).finish).zs z.toNat).st=2;have e2:((D.dv.tick.set z.toNat (D.dv.zs z.toNat).finish).zs z.toNat)=(D.dv.zs z.toNat).finish:=by
   show H6 D.dv.zs z.toNat _ z.toNat=_;unfold H6;rw[aH rfl]
  rw[e2];rfl
end
section
variable (A:Bv disp)(hK:10000<K){ar m:Nat}(M:Cv h m S F)(hb:HB h)(hA:h.get ar=some (.cells (Z1 m cur Bt) 152))(fA:F ar){z:Int}(t:Tz S z)
include A hK t
theorem Blx(M:Cv h m S F)(hb:HB h)(hA:h.get ar=some (.cells (Z1 m cur Bt) 152))(hd:15<=d):Ok (Ag TT disp K d false 186 [.ptr ar 0,I z] h) fun v h'=>v=I 0/\(∃i,Cv h' m { S with dr:=i } F/\Fd S.dr i z 0)/\Kf F h h'/\HB h':=by
 obtain⟨e,rfl⟩:∃k,d=k+1:=⟨d-1,by omega⟩;rw[Anc A (by omega)];simp only[Ai5,Ab];rw[Al hA rfl (v:=.ptr m 0) rfl];obtain⟨D,V,dr⟩:=Agx A hK M hb;rw[dr.Dr,dr.device,dr.state,aH (Sn t.c t.d).2.2.1];simp only[I,Ac];by_cases j:(S.dr.dv.zs z.toNat).st=0
 ·rw[j]
  simp only[show decide (((0:Nat):Int)=0)=true from rfl,Ab];exact .ret ⟨rfl,⟨S.dr,M,Bh7 t j⟩,Ar.refl _,hb⟩
 ·rw[aO (by omega)]
  simp only[Ab,Acm];rw[Al hA rfl (v:=.ptr m 0) rfl,dr.Dr];obtain⟨o,q⟩:=A70 t;refine(dr.reset (d:=e) (by omega) z (by rw[Yy t.c.ev];exact t.pos)).Ap ?_;rintro _ h' ⟨rfl,M2,u,a⟩;rw[o];exact .ret ⟨rfl,⟨_,M2,q⟩,u,a⟩
theorem A4y(hd:14<=d){X:List (List EV)}(P:Ba7 X)(aa:X.length<=S.dr.dv.size)(ab:0<X.length)(ad:S.dr.dv.size<=64){v:EV}{q:Nat}:∀(f i:Nat) (h:Aa) (D:Jp),X.length-i<f->i<=X.length->Cv h m { S with dr:=D } F->HB h->h.get ar=some (.cells (Z1 m cur Bt) 152)->F ar->F q->Cj h v q 30 64 X.length X.flatten->Fd S.dr D z i ->
 Ok (Ld (Ag TT disp K d false) (Ag TT disp K d true) K f (.ptr ar 0) (I z) v (I X.length) (I i) h) fun w h'=>w=I 0/\(∃B,Cv h' m { S with dr:=B } F/\Dq S { S with dr:=B } fun i=>i=z.toNat)/\Kf F h h'/\HB h':=by
 intro f;induction f with
 | zero=>intro i h D hf;omega
 | succ f ih=>
  intro i h D hf hi M hb hA fA Q row c;rw[Ld];simp only[I,Ac];by_cases e:i<X.length
  ·have:decide ((i:Int)<(X.length:Int))=true:=by simp;omega
   simp only[this,Ab,Ady];obtain⟨C,U⟩:=P _ (a9 e);have e1:Mo X.flatten (i*64) 64=some X[i]:=Ayq (n:=64) _ _ _ (fun x hx=>(P x hx).1) (aD e);have ix:=row.ix e .i64;rw[ix,Cr (row.block (by omega)) rfl e1];generalize X[i]=x at C U
   try simp only[Ab]
   refine Ok.mk (by simp) C fun h2 E Y _=>?_
   have a:=E.hb hb;have u:=E.at hb hA;have M2:=(M.ext hb E).less fun j (hj:F j)=>Or.inl hj
   have l2:=a _ _ u;have l3:=a _ _ Y;obtain⟨D1,V,dr⟩:=Agx A hK M2 a;rw[Jb l2,Al u rfl (v:=.ptr m 0) rfl]
   try simp only[Ab,Au]
   rw[Auf dr.Bo6]
   try simp only[Ab,Au]
   rw[Jb l3,Cr Y rfl (Ak C)]
   try simp only[Ab,Au]
   obtain⟨G,H⟩:=Bcs t c (by omega) x;refine dr.append hd z C U (by kernel_rfl) (by kernel_rfl) (fun _=>by kernel_rfl) ?_;intro h4 s4 M4 k4 J;rw[show(({ S with dr:=D }:Mi).dr.append z x)=D.append z x from rfl]at *;rw[G];simp only[Ab,I,Ac,aB,aC,aA,Afe,Ad7,Adm];rw[Cq,show((i:Nat):Int)+1=((i+1:Nat):Int) by omega];have o:Kf F h h4:=(Ext.kf E).trans k4;refine(ih (i+1) h4 _ (by omega) (by omega) M4 J (o.at hb hA fA) fA Q (row.frame fun y=>o.get _ (hb _ _ (row.block y)) fun y=>y Q) H).mono ?_;rintro _ h5 ⟨rfl,⟨B,M5,c5⟩,k5,O⟩;exact⟨rfl,⟨B,M5,c5⟩,o.trans k5,O⟩
  ·have:i=X.length:=by omega
   subst this;have:decide ((X.length:Int)<(X.length:Int))=false:=by simp
   simp only[this,Ab,Aex];rw[Al hA rfl (v:=.ptr m 0) rfl];obtain⟨D1,V,dr⟩:=Agx A hK M hb;rw[dr.Dr,dr.device];have st:=dr.state z;simp only[I]at st;rw[st,aH (t.has c)];simp only[I,Ac];by_cases Z:(D.dv.zs z.toNat).st=2
   ·rw[Z]
    simp only[show decide (((2:Nat):Int)=2)=true from rfl,Ab];exact .ret ⟨rfl,⟨D,M,Bne t c (.inl Z)⟩,Ar.refl _,hb⟩
   ·rw[aO (by omega)]
    simp only[Ab,Aec];rw[Al hA rfl (v:=.ptr m 0) rfl,dr.Dr];obtain⟨G,H⟩:=Bff t c;refine(dr.finish (d:=d) hd z).Ap ?_;rintro _ h' ⟨rfl,M2,k2,a⟩;rw[show(({ S with dr:=D }:Mi).dr.finish z)=D.finish z from rfl]at *;rw[G];exact .ret ⟨rfl,⟨_,M2,H⟩,k2,a⟩
include M hb hA fA
theorem Bnk {b ml ll:Nat}{es:List Me}(mp:Rl h b ml ll S.g es){x y w:Int}(hR:snR x y w es=true)(hd:17<=d):Ok (Ag TT disp K d false 159 [.ptr ar 0,.agg [I x,I y,I w,.ptr b 0],I z] h) fun v h'=>v=I 0/\(∃P,Cv h' m { S with dr:=P } F/\Dq S { S with dr:=P } fun i=>i=z.toNat)/\Kf F h h'/\HB h':=by
 have Q:=t.c.rt;have s:=Oj Q;have n0:=Je s t.d;have n1:z<S.g.D*S.g.Z:=by rcases I9 s z with y|⟨_,_,_,_,y⟩;have:=t.d;omega;exact y
 have hp:S.g.parts<=S.g.S:=by
  have:=Q;unfold rtB at this;simp only[aV,aU]at this;exact this.2.1
 have al:=t.c.size;have:=s.s0;have:=s.s1;have:=s.b0;have ao:1<=S.g.parts:=by unfold Gm.parts;omega
 obtain⟨e,rfl⟩:∃k,d=k+1:=⟨d-1,by omega⟩;rw[Ape A (by omega)];simp only[Aky,Ab];obtain⟨h1,e_,O,g1,ax⟩:=nW h (.cells [I x,I y,I w,.ptr b 0] 160);rw[e_];have u:=O.hb hb;have H:=O.at hb hA;have M1:=(M.ext hb O).less fun j (hj:F j)=>Or.inl hj
 have l1:=u _ _ H;obtain⟨D,V,dr⟩:=Agx A hK M1 u;rw[Jb l1,Al H rfl (v:=.ptr m 0) rfl]
 try simp only[Ab,Au]
 refine Ok.bE dr.table (fun _ _ p=>p.2) ?_;rintro _ az h2 ⟨rfl,_⟩ _ U;have E:=U.hb u;have g2:=U.at u g1;have l2:=E _ _ g2;have Y:h.next<h1.next:=by omega
 try simp only[Ab,Au]
 rw[Jb Y,Cw g2 rfl,Ak (n:=4) rfl]
 try simp only[Ab,Au]
 have a:Ext h h2:=O.trans U;have aa:Rl h2.lift b ml ll S.g es:=(mp.frame (a.get _ (hb _ _ mp.map) id) (a.get _ (hb _ _ mp.row) id) (a.get _ (hb _ _ mp.live) id)).frame (By _ _) (By _ _) (By _ _);refine Ok.bE (Bag (K:=K) A (d:=e) (by omega) hK Q aa (Dg E) hR n0 n1) (fun _ _ p=>by obtain⟨_,_,_,_,_,_,_,_,p,_⟩:=p;exact p) ?_;rintro _ a0 h3 ⟨v,q,X,rfl,row,lq,hL,hX,_,_⟩ sm x3;have B:=x3.hb E;have o:Cj h3 v q 30 64 X.length X.flatten:=row.frame fun _=>sm.get _
 have hq:h2.next<=q:=lq (by omega)
 simp only[Ab,I,Ac,aC,aA,Ae8];have G:Ext h h3:=a.trans x3;have J:=G.at hb hA;have M3:Cv h3 m S (fun i=>F i\/i=q):=(M.ext hb G).less fun j hj=>by
  rcases hj with hj|hj
  ·exact .inl hj
  ·subst hj
   have:=B _ _ (o.block (by omega));have:=a.next
   exact .inr ⟨by omega,by omega⟩
 refine(Blx (K:=K) A hK t M3 B J (d:=e) (by omega)).Ap ?_;rintro _ h4 ⟨rfl,⟨P,M4,c4⟩,k4,ae⟩;simp only[Ab,I,Ac,aC,aA,Aey];have C:=o.frame (h':=h4) fun y=>k4.get _ (B _ _ (o.block y)) fun w=>w (.inr rfl)
 rw[C.H5];refine(A4y (K:=K) A hK t (d:=e) (by omega) hX (by omega) (by omega) (by omega) K 0 h4 _ (by omega) (by omega) M4 ae (k4.at B J (.inl fA)) (.inl fA) (.inr rfl) C c4).mono ?_;rintro _ h5 ⟨rfl,⟨D2,M5,c5⟩,k5,af⟩;exact⟨rfl,⟨D2,M5.less fun j hj=>.inl hj,c5⟩,((Ext.kf G).trans (k4.less fun j hj=>.inl hj)).trans (k5.less fun j hj=>.inl hj),af⟩
end
end
def swC(cur Bt:Nat->Int)(k:Nat):Nat->Int:=fun j=>if j<k then Bt j else cur j
theorem Bbn(cur Bt:Nat->Int)(k:Nat):Lo (swC cur Bt k) k (Bt k)=swC cur Bt (k+1):=by
 funext j;unfold Lo swC;by_cases h:j=k
 ·subst h;rw[aH rfl,aH (aL _)]
 ·rw[aF h]
  by_cases h2:j<k
  ·rw[aH h2,aH (by omega)]
  ·rw[aF h2,aF (by omega)]
theorem Blb(cur Bt:Nat->Int)(k:Nat):Lo (Lo (swC Bt cur k) k (-1)) k (cur k)=swC Bt cur (k+1):=by
 have:Lo (Lo (swC Bt cur k) k (-1)) k (cur k)=Lo (swC Bt cur k) k (cur k):=by
  funext j;unfold Lo;split<;>rfl
 rw[this];exact Bbn Bt cur k
def Awp(Bt:Nat->Int)(k:Nat):Nat->Prop:=fun z=>∃i,i<k/\z=(Bt i).toNat
theorem Dq.flush(q:Dq S T W):T.dr.flush.2=0/\Dq S { T with dr:=T.dr.flush.1 } W:=by
 have a:=Akk q.ev q.up;rw[a];exact⟨rfl,q.g,q.bad,q.ps,q.o,q.ev,q.up,q.hp,q.n,q.size,q.op,q.same,q.Arp⟩
section
variable (A:Bv disp)(hK:10000<K){ar m b ml ll:Nat}{es:List Me}(fA:F ar)(fb:F b/\F ml/\F ll/\b≠ar/\ml≠ar/\ll≠ar){x y w:Int}
include A hK fA fb
theorem Bmo(hd:18<=d)(U:snR x y w es=true){i:Nat}(q:i<3)(M:Cv h m S F)(hb:HB h)(hA:h.get ar=some (.cells (Z1 m cur Bt) 152))(mp:Rl h b ml ll S.g es)(t:Tz S (Bt i))(V:S.Ex (Bt i)=false):
 Ok (Ag TT disp K d false 132 [.ptr ar 0,I i,.agg [I x,I y,I w,.ptr b 0]] h) fun v h'=>v=.tuple [.bool true,I 0]/\(∃G,Cv h' m { S with dr:=G } F/\Dq S { S with dr:=G } fun k=>k=(Bt i).toNat)/\h'.get ar=some (.cells (Z1 m (Lo cur i (Bt i)) (Lo (Lo Bt i (-1)) i (cur i))) 152)/\Ar (fun j=>¬F j\/j=ar) h h'/\HB h':=by
 obtain⟨e,rfl⟩:∃k,d=k+1:=⟨d-1,by omega⟩;rw[Amv A (by omega)];simp only[Ain,Ab];obtain⟨Y,Z,H,g1,ab⟩:=nW h (.cells [I x,I y,I w,.ptr b 0] 160);rw[Z];have u:=H.hb hb;have O:=H.at hb hA;have M1:Cv Y m S (fun j=>F j\/j=h.next):=(M.ext hb H).less fun j hj=>by
  rcases hj with hj|hj
  ·exact .inl hj
  ·exact .inr ⟨by omega,by omega⟩
 obtain⟨P,rfl⟩:∃k,K=k+1:=⟨K-1,by omega⟩;rw[N0];have ae:=Je t.c.sm t.d;have ht:tgt S (Bt i) i=(Bt i,S):=by
  unfold tgt;rw[aH ⟨by omega,V⟩]
 refine(Bcu (K:=P+1) hK M1 u O (.inl fA) q (Zt t.c.sm t.d)).Ap ?_;rintro _ h2 ⟨rfl,M2,B,c2,C⟩;rw[ht]at M2⊢;have la:=hb _ _ hA;have a:Ar (fun j=>¬F j\/j=ar) h h2:=(Ext.to H).trans (c2.mono fun j hj=>hj.elim (fun y=>.inl fun w=>y (.inl w)) .inr);have g2:h2.get h.next=some (.cells [I x,I y,I w,.ptr b 0] 160):=c2.at u g1 fun w=>w.elim (fun w=>w (.inr rfl)) fun w=>by omega
 simp only[I,Ac];rw[aO (show ¬Bt i = -1 by omega)];simp only[Ab,Ac0];rw[Cw g2 rfl,Ak (n:=4) rfl];simp only[Ab];have mT:Rl h2 b ml ll S.g es:=mp.frame (a.get _ (hb _ _ mp.map) fun w=>w.elim (fun w=>w fb.1) fb.2.2.2.1) (a.get _ (hb _ _ mp.row) fun w=>w.elim (fun w=>w fb.2.1) fb.2.2.2.2.1) (a.get _ (hb _ _ mp.live) fun w=>w.elim (fun w=>w fb.2.2.1) fb.2.2.2.2.2);have fl:=Bnk (K:=P+1) A hK (z:=Bt i) M2 C B (.inl fA) t mT U (d:=e) (by omega);simp only[I]at fl;refine fl.Ap ?_;rintro _ h3 ⟨rfl,⟨G,M3,c3⟩,Q,E⟩;have o:=Q.at C B (.inl fA);have J:=E _ _ o;simp only[Ac,aB,Ab];rw[Ac7 q]
 try simp only[Ab]
 rw[dO,Jb J,Al o rfl (Bn8 q)]
 try simp only[Ab,Au]
 rw[Ax (l:=[.int .i64 (Bt i),I (cur i)]) rfl]
 try simp only[Ab,Au]
 rw[Ac7 q]
 try simp only[Ab,Au]
 rw[J6];refine Ok.st (Z1 m (Lo cur i (Bt i)) (Lo (Lo Bt i (-1)) i (cur i))) o rfl rfl (A88 q (Bt i) (cur i)) ?_;exact .ret ⟨rfl,⟨G,(M3.Ahr (T:=fun j=>j=ar) ((Ar.refl (S:=fun j=>j=ar) _).Aq (.inl rfl) J _) fun j hj _=>.inl (hj▸fA)).less fun j hj=>.inl hj,c3⟩,Ae _ _ _,(a.trans (Q.mono fun j hj=>.inl fun w=>hj (.inl w))).Aq (.inl (.inr rfl)) J _,E.put J _⟩
theorem A27(hd:19<=d)(hR:snR x y w es=true){t:Nat}(ft:F t)(ta:t≠ar)(Q:∀i,i<3->Tz S (Bt i)/\S.Ex (Bt i)=false/\Bo S.g (Bt i)=i)(J:Idle S (Awp Bt 3)):∀(f i:Nat) (h:Aa) (T:Mi),3-i<f->i<=3->Cv h m T F->Dq S T (Awp Bt i)->HB h->h.get ar=some (.cells (Z1 m (swC cur Bt i) (swC Bt cur i)) 152)->h.get t=some (.cells [I x,I y,I w,.ptr b 0] 160)->Rl h b ml ll S.g es ->
 Ok (Kl (Ag TT disp K d false) (Ag TT disp K d true) K f (.ptr ar 0) (.ptr t 0) (I i) (I i) h) fun v h'=>v=.tuple [I 3,I 0]/\(∃T,Cv h' m T F/\Dq S T (Awp Bt 3))/\h'.get ar=some (.cells (Z1 m (swC cur Bt 3) (swC Bt cur 3)) 152)/\Ar (fun j=>¬F j\/j=ar) h h'/\HB h':=by
 intro f;induction f with
 | zero=>intro i h T hf;omega
 | succ f ih=>
  intro i h T hf hi M q hb hA gt mp;rw[Kl];simp only[I,Ac];by_cases u:i<3
  ·have:decide ((i:Int)<3)=true:=by simp;omega
   simp only[this,Ab,Ab2];rw[Cw gt rfl,Ak (n:=4) rfl];simp only[Ab];obtain⟨G,U,di⟩:=Q i u;have H:swC Bt cur i i=Bt i:=aF (bO _);have ec:swC cur Bt i i=cur i:=aF (bO _);have B:¬Awp Bt i (Bt i).toNat:=fun⟨j,hj,e⟩=>by
    have dj:=(Q j (by omega)).2.2;have:=T9 G.c.sm (x:=Bt i) (y:=Bt j) (by omega) (by omega) e;rw[this,dj]at di;omega
   have tT:Tz T (Bt i):=⟨G.c.dq q fun z hz hw=>J z hz (by obtain⟨j,hj,e⟩:=hw;exact⟨j,by omega,e⟩),by rw[q.g];exact G.d,by rw[(q.same _ B).1,(q.same _ B).2];exact G.st⟩;have nT:T.Ex (Bt i)=false:=by unfold Mi.Ex at U⊢;rw[q.g,q.bad];exact U
   have C:=Bmo (K:=K) A hK fA fb (d:=d) (by omega) hR u (Bt:=swC Bt cur i) M hb hA (by rw[q.g];exact mp) (by rw[H];exact tT) (by rw[H];exact nT);simp only[I]at C;refine C.Ap ?_;rintro _ h2 ⟨rfl,⟨D',M2,Y⟩,E,c2,a⟩;rw[H,ec,Bbn,Blb]at E;rw[H]at Y;simp only[Ab,Ac,aC,aA,Acd,Ac3];rw[Cq];rw[show((i:Nat):Int)+1=((i+1:Nat):Int) by omega];have O:Rl h2 b ml ll S.g es:=mp.frame (c2.get _ (hb _ _ mp.map) fun w=>w.elim (fun w=>w fb.1) fb.2.2.2.1) (c2.get _ (hb _ _ mp.row) fun w=>w.elim (fun w=>w fb.2.1) fb.2.2.2.2.1) (c2.get _ (hb _ _ mp.live) fun w=>w.elim (fun w=>w fb.2.2.1) fb.2.2.2.2.2);have q3:Dq S { T with dr:=D' } (Awp Bt (i+1)):=by
    have:=q.trans Y;refine⟨this.g,this.bad,this.ps,this.o,this.ev,this.up,this.hp,this.n,this.size,this.op,fun k P=>this.same k fun y=>P ?_,fun k P hn=>this.Arp k ?_ hn⟩
    ·rcases y with⟨j,hj,e⟩|e
     ·exact⟨j,by omega,e⟩
     ·exact⟨i,by omega,e⟩
    ·obtain⟨j,hj,e⟩:=P
     rcases cI.1 hj with y|y
     ·exact .inl ⟨j,y,e⟩
     ·subst y;exact .inr e
   refine(ih (i+1) h2 _ (by omega) (by omega) M2 q3 a E (c2.at hb gt fun w=>w.elim (fun w=>w ft) ta) O).mono ?_;rintro _ h3 ⟨rfl,r1,r2,r3,r4⟩;exact⟨rfl,r1,r2,c2.trans r3,r4⟩
  ·have:i=3:=by omega
   subst this;have:decide (((3:Nat):Int)<3)=false:=rfl;simp only[this,Ab,Ab6];rw[Al hA rfl (v:=.ptr m 0) rfl];obtain⟨D,V,dr⟩:=Agx A hK M hb;rw[dr.Dr];obtain⟨f1,f2⟩:=q.flush;refine(dr.flush (d:=d) (by omega)).Ap ?_;rintro _ h2 ⟨rfl,M2,Z,a⟩;rw[f1];simp only[I,Ac,aC,aA,Ab,Ac1];have e:decide (((3:Nat):Int)<2)=false:=rfl;simp only[e,Ab,Ab5];exact .ret ⟨rfl,⟨_,M2,f2⟩,Z.at hb hA fA,Z.mono fun j hj=>.inl hj,a⟩
theorem Bkz(hd:20<=d)(hR:snR x y w es=true)(c:Calm S)(hT:∀i,i<3->Tz S (Bt i)/\S.Ex (Bt i)=false/\Bo S.g (Bt i)=i)(P:Idle S (Awp Bt 3))(M:Cv h m S F)(hb:HB h)(hA:h.get ar=some (.cells (Z1 m cur Bt) 152))(mp:Rl h b ml ll S.g es):
 Ok (Ag TT disp K d false 99 [.ptr ar 0,.agg [I x,I y,I w,.ptr b 0]] h) fun v h'=>v=.tuple [I 3,I 0]/\(∃T,Cv h' m T F/\Dq S T (Awp Bt 3))/\h'.get ar=some (.cells (Z1 m (swC cur Bt 3) (swC Bt cur 3)) 152)/\Ar (fun j=>¬F j\/j=ar) h h'/\HB h':=by
 obtain⟨e,rfl⟩:∃k,d=k+1:=⟨d-1,by omega⟩;have s:=c.sm;rw[Am6 A (by omega)];simp only[Aie,Ab];obtain⟨h1,e_,E,O,ai⟩:=nW h (.cells [I x,I y,I w,.ptr b 0] 160);rw[e_];have o:=E.hb hb;have l1:=o _ _ O;have la:=o _ _ (E.at hb hA);rw[Jb l1,Cw O rfl,Ak (n:=4) rfl]
 try simp only[Ab,Au]
 have u:=mp.frame (E.get _ (hb _ _ mp.map) id) (E.get _ (hb _ _ mp.row) id) (E.get _ (hb _ _ mp.live) id);refine Ok.bE ((Ap7 (K:=K) A (d:=e) (by omega) (by omega) s (u.frame (By _ _) (By _ _) (By _ _)) (Dg o) x y w)) (fun _ _ p=>p.2.1) ?_;rintro _ al h2 ⟨rfl,_⟩ _ B;have G:=B.hb o;rw[hR];have g2:=B.at o O;simp only[Ab,Ac,Au];rw[Jb l1,Al g2 rfl (v:=.ptr b 0) rfl]
 try simp only[Ab,Au]
 have Q:=u.frame (B.get _ (o _ _ u.map) id) (B.get _ (o _ _ u.row) id) (B.get _ (o _ _ u.live) id);refine Ok.bE ((Agb (K:=K) (Q.frame (By _ _) (By _ _) (By _ _)) (Dg G)).mono fun _ _ a=>(⟨a.1,a.2.1⟩:_/\_)) (fun _ _ p=>p.2) ?_;rintro _ aq h3 ⟨rfl,_⟩ _ U;have H:=U.hb G;have C:Ext h h3:=(E.trans B).trans U;have V:=C.at hb hA
 try simp only[Ab,Au]
 rw[Jb la,Al V rfl (v:=.ptr m 0) rfl]
 try simp only[Ab,Au]
 have M3:=(M.ext hb C).less fun j (hj:F j)=>Or.inl hj
 refine Ok.bE (O0 (K:=K) (M3.same (Al4.lift _)) (Dg H)) (fun _ _ p=>p.2) ?_;rintro _ ax h4 ⟨rfl,_⟩ _ Y;have Z:=Y.hb H
 try simp only[Ab,Au]
 rw[Bn5];simp only[Tj,Ab,Ab1];have q:Ext h h4:=C.trans Y;have J:Ext h1 h4:=(B.trans U).trans Y;have M4:Cv h4 m S (fun j=>F j\/j=h.next):=(M.ext hb q).less fun j hj=>by
  rcases hj with hj|hj
  ·exact .inl hj
  ·have:=J.next
   exact .inr ⟨by omega,by omega⟩
 have lA:=hb _ _ hA;have aa:=mp.frame (q.get _ (hb _ _ mp.map) id) (q.get _ (hb _ _ mp.row) id) (q.get _ (hb _ _ mp.live) id);have q0:Dq S S (Awp Bt 0):=⟨rfl,rfl,rfl,⟨rfl,rfl,rfl⟩,c.ev,c.up,rfl,rfl,rfl,rfl,fun _ _=>⟨rfl,rfl⟩,fun _ ⟨j,hj,_⟩=>by omega⟩;refine(A27 (K:=K) (F:=fun j=>F j\/j=h.next) A hK (.inl fA) ⟨.inl fb.1,.inl fb.2.1,.inl fb.2.2.1,fb.2.2.2⟩ (d:=e) (by omega) hR (t:=h.next) (.inr rfl) (by omega) hT P K 0 h4 S (by omega) (by omega) M4 q0 Z (q.at hb hA) (J.at o O) aa).mono ?_;rintro _ h5 ⟨rfl,⟨T,M5,q5⟩,ab,c5,ad⟩;exact⟨rfl,⟨T,M5.less fun i=>.inl,q5⟩,ab,(Ext.to q).trans (c5.mono fun j hj=>hj.elim (fun y=>.inl fun z=>y (.inl z)) .inr),ad⟩
end
end Go.Ev
