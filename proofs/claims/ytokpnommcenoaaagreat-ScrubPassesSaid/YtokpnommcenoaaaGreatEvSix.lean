import Derived.Test.YtokpnommcenoaaaGreatEvFive
set_option linter.all false
namespace Go.Ev
set_option maxRecDepth 100000
variable {i j n:Nat}{h:Ab}{disp:Nat->Option FT}{f:EV->EV->Option EV}
abbrev I(n:Int):EV:=.int .i64 n
abbrev N(n:Nat):EV:=.int .i64 (.ofNat n)
theorem Avl(a b:Int):ltI a b=decide (a<b):=by
 rw[Beu];cases a<;>cases b<;>simp only[ltB]
 ·rename_i a b;rw[fF,dX];simp[cv];omega
 ·rename_i a b;symm;rw[cm];simp only[aX];omega
 ·rename_i a b;symm;rw[dX];simp only[aX];omega
 ·rename_i a b;rw[fF,dX];simp[cv];omega
theorem A0g(a b:Int):eqI a b=decide (a=b):=by
 rw[Bd0];cases a<;>cases b<;>simp only[eqB]
 ·rw[fF,dX];simp[Nat.beq_eq];omega
 ·simp
 ·simp
 ·rw[fF,dX];simp[Nat.beq_eq]
theorem Awp(p:Prop)[Decidable p]:Aqp (decide p)=decide (¬p):=by by_cases h:p<;>simp[h,Aqp]
theorem Bjg(a b:Int):Brr a b=a+b:=Bgj a b
theorem Bdy(a b:Int):Bqu a b=a-b:=Bf3 a b
theorem A4q {n:Int}(a : -9223372036854775808<=n)(h2:n<9223372036854775808):Cx .i64 n=n:=by
 unfold Cx;split
 ·rename_i m
  have:Nat.ble (Nat.succ m) (lid .i64)=true:=aO (show m+1<=9223372036854775808 by simp only[aX]at h2;omega);rw[this,Ak]
 ·rename_i m
  have:Nat.ble (Nat.succ m) (floor .i64)=true:=aO (show m+1<=9223372036854775808 by simp only[cq]at a;omega);rw[this,Ak]
theorem Ad(h:Ab)(o:Ca):(h.new o).get h.next=some o:=by rw[Ab.K8,aQ rfl]
theorem Az(o:Ca)(a:i<h.next):(h.new o).get i=h.get i:=by rw[Ab.K8,aM (by omega)]
theorem Af(h:Ab)(i:Nat)(o:Ca):(h.put i o).get i=some o:=by rw[Ab.get_put,aQ rfl]
theorem Ae(o:Ca)(a:i≠j:=by omega):(h.put i o).get j=h.get j:=by rw[Ab.get_put,aM a]
theorem Bdq(a:i≠j):(h.del i).get j=h.get j:=by rw[Ab.Aa8,aM a]
theorem Bqf {α:Type}(p:Prop)[Decidable p](x y:α):Ax (decide p) x y=if p then x else y:=by by_cases h:p<;>simp[h]
theorem Be9 {l:List EV}(h:n<=l.length):takeN l n=some (l.take n):=by
 induction l generalizing n with
 | nil=>
  have:n=0:=by simpa using h
  subst this;rfl
 | cons a r b=>
  cases n with
  | zero=>rfl
  | succ n=>
   simp only[takeN];rw[show Nat.beq (n+1) 0=false from rfl,Bc,Nat.pred_succ,b (by simpa using h)];rfl
theorem E7 {l:List EV}{off:Nat}(h:off+n<=l.length):Mu l off n=some ((l.drop off).take n):=by
 rw[Ai5,Tp,Be9 (by rw[aU];omega)]
theorem Awe:∀(l:List EV) (n:Nat),A24 l n=l[n]?
 | [],n=>rfl
 | a::r,0=>rfl
 | a::r,n+1=>by
  have e:A24 (a::r) (n+1)=A24 r n:=rfl;rw[e,Awe r n];simp
theorem A5m(v:EV):∀(l:List EV) (n:Nat),n<l.length->Mq l n [v]=some (l.set n v)
 | [],n,h=>by simp at h
 | a::r,n,h=>by
  rw[Vq];cases n with
  | zero=>cases r<;>rfl
  | succ n=>
   have e:Fm (a::r) (n+1) [v]=(match Fm r n [v]with|some x=>some (a::x)|none=>none):=rfl;rw[e,<-Vq,A5m v r n (by simpa using h)];rfl
theorem Bf(l:List EV):Fl l=l.length:=by rw[Aio,Y9]
theorem Bl {l vs:List EV}(h:l.length=vs.length):Mq l 0 vs=some vs:=by
 unfold Mq;rw[Bf,Bf,h,show Nat.beq 0 0=true from rfl,Ak,show Nat.beq vs.length vs.length=true from cI _,Ak]
section
variable{s:Nat}{g:IG}
theorem Bph(c:IntKind)(a b:Int):Ja c a b=.bool (ltI a b):=rfl
theorem Bqa(c:IntKind)(a b:Int):Bc0 c a b=.bool (Aqp (ltI b a)):=rfl
theorem Brm(c:IntKind)(a b:Int):A95 c a b=.bool (ltI b a):=rfl
theorem Bpr(c:IntKind)(a b:Int):Bdu c a b=.bool (Aqp (ltI a b)):=rfl
theorem Bqs(c:IntKind)(a b:Int):Akq c a b=.bool (eqI a b):=rfl
theorem Bf2(c:IntKind)(a b:Int):Alb c a b=.bool (Aqp (eqI a b)):=rfl
theorem Bqt(c:IntKind)(a b:Int):A3p c a b=.int c (Cx c (Brr a b)):=rfl
theorem Bu(b w:Bool):D6 (.bool b) w=Ax b w (Aqp w):=rfl
theorem Bsr:Aqp true=false:=rfl
theorem A3i{l:List EV}{t:TypeId}(a:h.get i=some (.cells l t))(F:List EV->Option (List EV))(k:Ab->R):Ajl h i F k=oB (fun l'=>k (h.put i (.cells l' t))) (F l):=by
 unfold Ajl;rw[a]
theorem Bq9 {q off ln rm:Nat}{op:Bool}(hj:j<ln)(k:EV->R)(c:IntKind):Zl s (.slice q off ln rm op) (.int c (.ofNat j)) k=k (.ptr q (off+j*s)):=by
 show Ax (Nat.ble (Nat.succ j) ln) _ none=_;rw[aO hj,Ak];rfl
end
section
variable {T:Hj}{call round:Ai}{K:Nat}
theorem Avv{g:Nat}{F:FT}(h:disp g=some F)(d:Nat)(args:List EV)(a:Ab):
 Ag T disp K (d+1) false g args a=F (Ag T disp K d false) (Ag T disp K d true) K args a:=by
 have e:Ag T disp K (d+1) false g args a = @Option.rec FT (fun _=>FnT) (Ax5 T (Ag T disp K d false) (Ag T disp K d true) K g) (fun F=>F (Ag T disp K d false) (Ag T disp K d true) K) (disp g) args a:=rfl;rw[e,h]
theorem A86(disp:Nat->Option FT)(d l:Nat)(args:List EV)(a:Ab):
 Ag T disp K (d+1) true l args a=Ayf T (Ag T disp K d false) (Ag T disp K d true) K l args a:=rfl
theorem lq {m d:Nat}(h:n<=d)(e:Nat.ble m n=true):m<=d:=bQ (bB e) h
end
end Go.Ev


namespace Go.Ev
section
noncomputable section
inductive Hk where
 | no
 | here (X:CD)
 | two (a b:Hk)
abbrev Hk.l(H:Hk):Hk:=match H with | .two a _=>a|_=>.no
abbrev Hk.r(H:Hk):Hk:=match H with | .two _ b=>b|_=>.no
section
variable (fl:Bool)(T:Hj)(call callV round:Ai)(fuel fn n:Nat)(Dq:Option Nat)(out:Nat->CD)(ret:CD)
abbrev Q1(H:Hk):Code->Ak8->CD->CD:=
 @Hk.rec (fun _=>Code->Ak8->CD->CD) (fun c env k=>Ab8 fl T call callV round fuel fn n Dq out ret c env k) (fun X _ _ _=>X)
  (fun _ _ a b c env k=>match c with
   | .seq x y=>a x env (b y env k)
   | .cond v x y=>fun d tm h ds=>match Eh d v with|some e=>ifE e (a x env k d tm h ds) (b y env k d tm h ds)|none=>none
   | .block id x=>a x ((id,k)::env) k
   | c=>Ab8 fl T call callV round fuel fn n Dq out ret c env k) H
abbrev atH(p:List Bool):Hk->Code->Ak8->CD->CD:=
 @List.rec Bool (fun _=>Hk->Code->Ak8->CD->CD) (fun _ c env k=>Ab8 fl T call callV round fuel fn n Dq out ret c env k)
  (fun s _ a H c env k=>match c with
   | .seq x y=>Ax s (a H.r y env k) (a H.l x env (Q1 fl T call callV round fuel fn n Dq out ret H.r y env k))
   | .cond _ x y=>Ax s (a H.r y env k) (a H.l x env k)
   | .block id x=>a H.l x ((id,k)::env) k
   | c=>Ab8 fl T call callV round fuel fn n Dq out ret c env k) p
end
abbrev A0q(p:List Bool)(X:CD):Hk->Hk:=
 @List.rec Bool (fun _=>Hk->Hk) (fun _=>.here X) (fun s _ a H=>Ax s (.two H.l (a H.r)) (.two (a H.l) H.r)) p
def Atc(p:List Bool):Hk->Code->Bool:=
 @List.rec Bool (fun _=>Hk->Code->Bool) (fun H _=>match H with | .no=>true|_=>false)
  (fun s _ a H c=>match H with
   | .here _=>false
   | H=>match c with
    | .seq x y=>Ax s (a H.r y) (a H.l x)
    | .cond _ x y=>Ax s (a H.r y) (a H.l x)
    | .block _ x=>Ax s false (a H.l x)
    | _=>false) p
def Bu3(p:List Bool):Code->Code:=
 @List.rec Bool (fun _=>Code->Code) (fun c=>c) (fun s _ a c=>match c with
  | .seq x y=>Ax s (a y) (a x)
  | .cond _ x y=>Ax s (a y) (a x)
  | .block _ x=>a x
  | .loop x=>a x
  | c=>c) p
abbrev Om(T:Hj)(g:Nat):Code:=match T.fn g with|some { body:=some c,.. }=>c|_=>.skip
abbrev nOf(T:Hj)(g:Nat):Nat:=match T.fn g with|some f=>f.ntmps|_=>0
abbrev Agg(q:Bool)(T:Hj)(g:Nat):CD:=match T.fn g with|some f=>Bot q T f.results.toList|_=>fun _ _ _ _=>none
abbrev Bu1(T:Hj)(g:Nat)(p:List Bool):Code:=match Bu3 p (Om T g)with | .loop c=>c|c=>c
end
section
variable {fl:Bool}{T:Hj}{call callV round:Ai}{fuel fn n:Nat}{Dq:Option Nat}{out:Nat->CD}{ret:CD}
theorem Bjj(H:Hk)(d:∀X,H≠.here X)(c:Code)(env:Ak8)(k:CD):Q1 fl T call callV round fuel fn n Dq out ret H c env k=Q1 fl T call callV round fuel fn n Dq out ret (.two H.l H.r) c env k:=by
 cases H with
 | no=>cases c<;>rfl
 | here X=>exact(d X rfl).elim
 | two a b=>rfl
theorem Aao(X:CD):∀(p:List Bool) (H:Hk) (c:Code) (env:Ak8) (k:CD),Atc p H c=true->atH fl T call callV round fuel fn n Dq out ret p H c env k=X->Q1 fl T call callV round fuel fn n Dq out ret H c env k=Q1 fl T call callV round fuel fn n Dq out ret (A0q p X H) c env k
 | [],H,c,env,k,o,e=>by
  cases H with
  | no=>exact e
  | here _=>cases o
  | two _ _=>cases o
 | s::p,H,c,env,k,o,e=>by
  have q:∀Y,H≠.here Y:=fun Y y=>by subst y;cases o
  have hs:A0q (s::p) X H=Ax s (.two H.l (A0q p X H.r)) (.two (A0q p X H.l) H.r):=rfl;rw[Bjj H q,hs];have t:∃x y id v,c=.seq x y\/c=.cond v x y\/c=.block id x:=by
   cases H with
   | here Y=>exact(q Y rfl).elim
   | no=>cases c<;>first|exact⟨_,_,0,default,.inl rfl⟩|exact⟨_,_,0,_,.inr (.inl rfl)⟩|exact⟨_,.skip,_,default,.inr (.inr rfl)⟩|cases o
   | two a b=>cases c<;>first|exact⟨_,_,0,default,.inl rfl⟩|exact⟨_,_,0,_,.inr (.inl rfl)⟩|exact⟨_,.skip,_,default,.inr (.inr rfl)⟩|cases o
  obtain⟨x,y,id,v,rfl|rfl|rfl⟩:=t
  ·have d:Ax s (Atc p H.r y) (Atc p H.l x)=true:=by cases H<;>first|exact o|exact(q _ rfl).elim
   have e':Ax s (atH fl T call callV round fuel fn n Dq out ret p H.r y env k) (atH fl T call callV round fuel fn n Dq out ret p H.l x env (Q1 fl T call callV round fuel fn n Dq out ret H.r y env k))=X:=e;cases s with
   | true=>show Q1 fl T call callV round fuel fn n Dq out ret H.l x env (Q1 fl T call callV round fuel fn n Dq out ret H.r y env k)=Q1 fl T call callV round fuel fn n Dq out ret H.l x env (Q1 fl T call callV round fuel fn n Dq out ret (A0q p X H.r) y env k);rw[Aao X p H.r y env k d e']
   | false=>exact Aao X p H.l x env _ d e'
  ·have d:Ax s (Atc p H.r y) (Atc p H.l x)=true:=by cases H<;>first|exact o|exact(q _ rfl).elim
   have e':Ax s (atH fl T call callV round fuel fn n Dq out ret p H.r y env k) (atH fl T call callV round fuel fn n Dq out ret p H.l x env k)=X:=e;cases s with
   | true=>
    show(fun m tm h ds=>match Eh m v with|some e=>ifE e (Q1 fl T call callV round fuel fn n Dq out ret H.l x env k m tm h ds) (Q1 fl T call callV round fuel fn n Dq out ret H.r y env k m tm h ds)|none=>none)=fun m tm h ds=>match Eh m v with|some e=>ifE e (Q1 fl T call callV round fuel fn n Dq out ret H.l x env k m tm h ds) (Q1 fl T call callV round fuel fn n Dq out ret (A0q p X H.r) y env k m tm h ds)|none=>none
    rw[Aao X p H.r y env k d e']
   | false=>
    show(fun m tm h ds=>match Eh m v with|some e=>ifE e (Q1 fl T call callV round fuel fn n Dq out ret H.l x env k m tm h ds) (Q1 fl T call callV round fuel fn n Dq out ret H.r y env k m tm h ds)|none=>none)=fun m tm h ds=>match Eh m v with|some e=>ifE e (Q1 fl T call callV round fuel fn n Dq out ret (A0q p X H.l) x env k m tm h ds) (Q1 fl T call callV round fuel fn n Dq out ret H.r y env k m tm h ds)|none=>none
    rw[Aao X p H.l x env k d e']
  ·have d:Ax s false (Atc p H.l x)=true:=by cases H<;>first|exact o|exact(q _ rfl).elim
   cases s with
   | true=>cases d
   | false=>exact Aao X p H.l x _ k d e
theorem cut(p:List Bool){H:Hk}{c:Code}{env:Ak8}{k X Y Z:CD}(e:Y=X)(a:Atc p H c=true)(b:atH fl T call callV round fuel fn n Dq out ret p H c env k=Y)(rest:Q1 fl T call callV round fuel fn n Dq out ret (A0q p X H) c env k=Z):
 Q1 fl T call callV round fuel fn n Dq out ret H c env k=Z:=(Aao X p H c env k a (b.trans e)).trans rest
theorem Qv {B:CD->CD}{E:Nat->CD}(h0:E 0=fun _ _ _ _=>none)(hs:∀m,B (E m)=E (m+1)):∀m,A5i B m=E m
 | 0=>h0.symm
 | m+1=>by
  show B (A5i B m)=_;rw[Qv h0 hs m,hs]
theorem Buf {c:Code}{env:Ak8}{E b:Nat->CD}(h0:E 0=fun _ _ _ _=>none)(d:∀m,Q1 fl T call callV round fuel fn n Dq out ret .no c env (E m)=b m)(h2:∀m,b m=E (m+1))(m:Nat):A5i (fun a=>Ab8 fl T call callV round fuel fn n Dq out ret c env a) m=E m:=
 Qv (B:=fun a=>Ab8 fl T call callV round fuel fn n Dq out ret c env a) h0 (fun m=>(d m).trans (h2 m)) m
theorem A2m {A B:CD}(e:∀a tm h ds,A a tm h ds=B a tm h ds):A=B:=funext fun a=>funext fun tm=>funext fun h=>funext fun ds=>e a tm h ds
end
noncomputable section
abbrev w0(g:Nat)(f:Ab->R)(c:Ai):Ai:=fun a xs h=>Ax (Nat.beq g a) (@List.rec EV (fun _=>R) (f h) (fun _ _ _=>c a xs h) xs) (c a xs h)
abbrev w1(g:Nat)(f:EV->Ab->R)(c:Ai):Ai:=fun b xs h=>Ax (Nat.beq g b) (match xs with | [a]=>f a h|xs=>c b xs h) (c b xs h)
abbrev w2(g:Nat)(f:EV->EV->Ab->R)(c:Ai):Ai:=fun d xs h=>Ax (Nat.beq g d) (match xs with | [a,b]=>f a b h|xs=>c d xs h) (c d xs h)
abbrev w3(g:Nat)(f:EV->EV->EV->Ab->R)(c:Ai):Ai:=fun e xs h=>Ax (Nat.beq g e) (match xs with | [a,b,d]=>f a b d h|xs=>c e xs h) (c e xs h)
abbrev w4(g:Nat)(f:EV->EV->EV->EV->Ab->R)(c:Ai):Ai:=fun k xs h=>Ax (Nat.beq g k) (match xs with | [a,b,d,e]=>f a b d e h|xs=>c k xs h) (c k xs h)
abbrev w5(g:Nat)(f:EV->EV->EV->EV->EV->Ab->R)(c:Ai):Ai:=fun k xs h=>Ax (Nat.beq g k) (match xs with | [a,b,d,e,i]=>f a b d e i h|xs=>c k xs h) (c k xs h)
abbrev w6(g:Nat)(f:EV->EV->EV->EV->EV->EV->Ab->R)(c:Ai):Ai:=fun k xs h=>Ax (Nat.beq g k) (match xs with | [a,b,d,e,i,j]=>f a b d e i j h|xs=>c k xs h) (c k xs h)
end
section
variable {c x:Ai}{g:Nat}
theorem W0 {f:Ab->R}(e:∀h,c g [] h=f h)(y:c=x):c=w0 g f x:=by
 subst y;funext a xs h;show _=Ax (Nat.beq g a) _ _;cases hb:Nat.beq g a with
 | false=>rfl
 | true=>have:=aL hb;subst this;cases xs<;>first|exact e h|rfl
theorem W1 {f:EV->Ab->R}(e:∀a h,c g [a] h=f a h)(y:c=x):c=w1 g f x:=by
 subst y;funext b xs h;show _=Ax (Nat.beq g b) _ _;cases hb:Nat.beq g b with
 | false=>rfl
 | true=>have:=aL hb;subst this;show c g xs h=(match xs with | [a]=>f a h|xs=>c g xs h);split<;>first|exact e _ h|rfl
theorem W2 {f:EV->EV->Ab->R}(e:∀a b h,c g [a,b] h=f a b h)(y:c=x):c=w2 g f x:=by
 subst y;funext d xs h;show _=Ax (Nat.beq g d) _ _;cases hb:Nat.beq g d with
 | false=>rfl
 | true=>have:=aL hb;subst this;show c g xs h=(match xs with | [a,b]=>f a b h|xs=>c g xs h);split<;>first|exact e _ _ h|rfl
theorem W3 {f:EV->EV->EV->Ab->R}(e:∀a b d h,c g [a,b,d] h=f a b d h)(y:c=x):c=w3 g f x:=by
 subst y;funext k xs h;show _=Ax (Nat.beq g k) _ _;cases hb:Nat.beq g k with
 | false=>rfl
 | true=>have:=aL hb;subst this;show c g xs h=(match xs with | [a,b,d]=>f a b d h|xs=>c g xs h);split<;>first|exact e _ _ _ h|rfl
theorem W4 {f:EV->EV->EV->EV->Ab->R}(e:∀a b d i h,c g [a,b,d,i] h=f a b d i h)(y:c=x):c=w4 g f x:=by
 subst y;funext k xs h;show _=Ax (Nat.beq g k) _ _;cases hb:Nat.beq g k with
 | false=>rfl
 | true=>have:=aL hb;subst this;show c g xs h=(match xs with | [a,b,d,e]=>f a b d e h|xs=>c g xs h);split<;>first|exact e _ _ _ _ h|rfl
theorem W5 {f:EV->EV->EV->EV->EV->Ab->R}(e:∀a b d i j h,c g [a,b,d,i,j] h=f a b d i j h)(y:c=x):c=w5 g f x:=by
 subst y;funext k xs h;show _=Ax (Nat.beq g k) _ _;cases hb:Nat.beq g k with
 | false=>rfl
 | true=>have:=aL hb;subst this;show c g xs h=(match xs with | [a,b,d,e,i]=>f a b d e i h|xs=>c g xs h);split<;>first|exact e _ _ _ _ _ h|rfl
end
noncomputable def Bby(T:Hj)(g n:Nat):Bool:=match T.fn g with|some { body:=some _,.. }=>Nat.ble n (nOf T g)|_=>false
theorem Bjt {T:Hj}{c r:Ai}{K g:Nat}{args:List EV}(a:Bby T g (Fl args)=true)(h:Ab):Ax5 T c r K g args h=Q1 (Awc (Om T g)) T c c r K g (nOf T g) none no0 (Agg (Awc (Om T g)) T g) .no (Om T g) [] (Agg (Awc (Om T g)) T g) (A9e args 0 u0) (setArgs args 0 .nil) h []:=by
 unfold Bby nOf at a;unfold Ax5 nOf Agg Om;cases b:T.fn g with
 | none=>rw[b]at a<;>cases a
 | some fn=>
  rw[b]at a;obtain⟨name,origin,targs,params,d,nfree,n,results,body,e,ours,file,el,ln,met,k⟩:=fn;cases body with
  | none=>cases a
  | some c0=>
   show Ax (Nat.ble (Fl args) n) _ none=_;rw[show Nat.ble (Fl args) n=true from a,Ak]
end
noncomputable section
open Classical in
def Ac4(F:FT):FT:=fun call round K args h=>match F call round K args h with
 | some (v,h')=>if ∀i,i<h.next->h'.get i=h.get i then some (v,⟨h'.t,h'.next,h.mw⟩)else some (v,h')
 | none=>none
end
theorem Bjq {F:FT}{call round:Ai}{K:Nat}{args:List EV}{h h':Ab}{v:EV}(e:F call round K args h=some (v,h'))(s:∀i,i<h.next->h'.get i=h.get i):Ac4 F call round K args h=some (v,⟨h'.t,h'.next,h.mw⟩):=by
 unfold Ac4;rw[e];exact aQ s
theorem Bg3 {P:Program}{g:Nat}{F:FT}(C:Afd P g F):Afd P g (Ac4 F):=by
 intro call round K D E args h v h' e;have Cv:=C call round K D E args h;unfold Ac4 at e;cases m:F call round K args h with
 | none=>rw[m]at e;cases e
 | some y=>
  obtain⟨v1,d⟩:=y;rw[m]at e;have G:=Cv v1 d m;simp only at e;split at e
  ·rename_i s
   cases e;have gt:∀i,(⟨d.t,d.next,h.mw⟩:Ab).get i=d.get i:=fun i=>by cases d;rfl
   refine⟨G.fn,fun p f w J L b cs=>?_,⟨G.wf.next,aD _,fun q _ M=>by rw[gt];exact s q M,fun q o a=>G.wf.live q o (by rw[<-gt];exact a),fun H q o a=>G.wf.lt H q o (by rw[<-gt];exact a)⟩⟩;obtain⟨fr,f',w',u,A,B,mv,wf,O⟩:=G.run p f w J L b cs;refine⟨fr,f',w',u,A,B,⟨mv.agree,⟨fun i o a=>mv.rep.obj i o (by rw[<-gt];exact a),fun i j o o' k hj=>mv.rep.inj i j o o' (by rw[<-gt];exact k) (by rw[<-gt];exact hj)⟩,mv.kept,mv.size,mv.tape,mv.os,mv.output,fun i o a=>mv.own i o (by rw[<-gt];exact a)⟩,
    ⟨wf.next,aD _,fun i _ k=>by rw[gt];exact s i k,fun i o a=>wf.live i o (by rw[<-gt];exact a),⟨fun i k=>wf.hok.lt i k,fun i o a=>wf.hok.get i o (by rw[<-gt];exact a)⟩⟩,O⟩
  ·cases e
   exact G
end Go.Ev
