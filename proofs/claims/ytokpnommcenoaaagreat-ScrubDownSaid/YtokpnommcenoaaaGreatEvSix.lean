import Derived.Test.YtokpnommcenoaaaGreatEvFive
set_option linter.all false
namespace Go.Ev
set_option maxRecDepth 100000
variable {i j n:Nat}{h:Ab}{disp:Nat->Option FT}{f:EV->EV->Option EV}
abbrev I(n:Int):EV:=.int .i64 n
abbrev N(n:Nat):EV:=.int .i64 (.ofNat n)
theorem Axb(a b:Int):ltI a b=decide (a<b):=by
 rw[Bew];cases a<;>cases b<;>simp only[ltB]
 ·rename_i a b;rw[fD,dX];simp[cv];omega
 ·rename_i a b;symm;rw[cm];simp only[aX];omega
 ·rename_i a b;symm;rw[dX];simp only[aX];omega
 ·rename_i a b;rw[fD,dX];simp[cv];omega
theorem A0a(a b:Int):eqI a b=decide (a=b):=by
 rw[Bb9];cases a<;>cases b<;>simp only[eqB]
 ·rw[fD,dX];simp[Nat.beq_eq];omega
 ·simp
 ·simp
 ·rw[fD,dX];simp[Nat.beq_eq]
theorem Av4(p:Prop)[Decidable p]:Ap3 (decide p)=decide (¬p):=by by_cases h:p<;>simp[h,Ap3]
theorem Bhd(a b:Int):Bo4 a b=a+b:=Bfq a b
theorem Bcu(a b:Int):Bpm a b=a-b:=Bff a b
theorem A4k {n:Int}(a : -9223372036854775808<=n)(h2:n<9223372036854775808):Cx .i64 n=n:=by
 unfold Cx;split
 ·rename_i m
  have:Nat.ble (Nat.succ m) (lid .i64)=true:=aO (show m+1<=9223372036854775808 by simp only[aX]at h2;omega);rw[this,Aj]
 ·rename_i m
  have:Nat.ble (Nat.succ m) (floor .i64)=true:=aO (show m+1<=9223372036854775808 by simp only[cq]at a;omega);rw[this,Aj]
theorem Ad(h:Ab)(o:By):(h.new o).get h.next=some o:=by rw[Ab.Lb,aQ rfl]
theorem Ay(o:By)(a:i<h.next):(h.new o).get i=h.get i:=by rw[Ab.Lb,aM (by omega)]
theorem Ae(h:Ab)(i:Nat)(o:By):(h.put i o).get i=some o:=by rw[Ab.get_put,aQ rfl]
theorem Af(o:By)(a:i≠j:=by omega):(h.put i o).get j=h.get j:=by rw[Ab.get_put,aM a]
theorem Bec(a:i≠j):(h.del i).get j=h.get j:=by rw[Ab.Aa1,aM a]
theorem Bpa {α:Type}(p:Prop)[Decidable p](x y:α):Ax (decide p) x y=if p then x else y:=by by_cases h:p<;>simp[h]
theorem Bc5 {l:List EV}(h:n<=l.length):takeN l n=some (l.take n):=by
 induction l generalizing n with
 | nil=>
  have:n=0:=by simpa using h
  subst this;rfl
 | cons a r b=>
  cases n with
  | zero=>rfl
  | succ n=>
   simp only[takeN];rw[show Nat.beq (n+1) 0=false from rfl,Bc,Nat.pred_succ,b (by simpa using h)];rfl
theorem E6 {l:List EV}{off:Nat}(h:off+n<=l.length):Mj l off n=some ((l.drop off).take n):=by
 rw[Ai7,St,Bc5 (by rw[aU];omega)]
theorem Aw4:∀(l:List EV) (n:Nat),A1r l n=l[n]?
 | [],n=>rfl
 | a::r,0=>rfl
 | a::r,n+1=>by
  have e:A1r (a::r) (n+1)=A1r r n:=rfl;rw[e,Aw4 r n];simp
theorem A5l(v:EV):∀(l:List EV) (n:Nat),n<l.length->Mh l n [v]=some (l.set n v)
 | [],n,h=>by simp at h
 | a::r,n,h=>by
  rw[U6];cases n with
  | zero=>cases r<;>rfl
  | succ n=>
   have e:Fm (a::r) (n+1) [v]=(match Fm r n [v]with|some x=>some (a::x)|none=>none):=rfl;rw[e,<-U6,A5l v r n (by simpa using h)];rfl
theorem Bf(l:List EV):Fl l=l.length:=by rw[Ahx,X8]
theorem Bm {l vs:List EV}(h:l.length=vs.length):Mh l 0 vs=some vs:=by
 unfold Mh;rw[Bf,Bf,h,show Nat.beq 0 0=true from rfl,Aj,show Nat.beq vs.length vs.length=true from cI _,Aj]
section
variable{s:Nat}{g:IG}
theorem Bpl(c:IntKind)(a b:Int):Iy c a b=.bool (ltI a b):=rfl
theorem Bo9(c:IntKind)(a b:Int):Bdb c a b=.bool (Ap3 (ltI b a)):=rfl
theorem Bq6(c:IntKind)(a b:Int):Baf c a b=.bool (ltI b a):=rfl
theorem Bqg(c:IntKind)(a b:Int):Bcy c a b=.bool (Ap3 (ltI a b)):=rfl
theorem Brd(c:IntKind)(a b:Int):Aj7 c a b=.bool (eqI a b):=rfl
theorem Be3(c:IntKind)(a b:Int):Aoa c a b=.bool (Ap3 (eqI a b)):=rfl
theorem Bps(c:IntKind)(a b:Int):A3o c a b=.int c (Cx c (Bo4 a b)):=rfl
theorem Ch(b w:Bool):D6 (.bool b) w=Ax b w (Ap3 w):=rfl
theorem Br3:Ap3 true=false:=rfl
theorem A3g{l:List EV}{t:TypeId}(a:h.get i=some (.cells l t))(F:List EV->Option (List EV))(k:Ab->R):Ai8 h i F k=oB (fun l'=>k (h.put i (.cells l' t))) (F l):=by
 unfold Ai8;rw[a]
theorem Bqa {q off a rm:Nat}{op:Bool}(hj:j<a)(k:EV->R)(c:IntKind):Aal s (.slice q off a rm op) (.int c (.ofNat j)) k=k (.ptr q (off+j*s)):=by
 show Ax (Nat.ble (Nat.succ j) a) _ none=_;rw[aO hj,Aj];rfl
end
section
variable {T:Hh}{call round:Ai}{K:Nat}
theorem Avg{g:Nat}{F:FT}(h:disp g=some F)(d:Nat)(args:List EV)(a:Ab):
 Ag T disp K (d+1) false g args a=F (Ag T disp K d false) (Ag T disp K d true) K args a:=by
 have e:Ag T disp K (d+1) false g args a = @Option.rec FT (fun _=>FnT) (Axk T (Ag T disp K d false) (Ag T disp K d true) K g) (fun F=>F (Ag T disp K d false) (Ag T disp K d true) K) (disp g) args a:=rfl;rw[e,h]
theorem Ba1(disp:Nat->Option FT)(d l:Nat)(args:List EV)(a:Ab):
 Ag T disp K (d+1) true l args a=Ax5 T (Ag T disp K d false) (Ag T disp K d true) K l args a:=rfl
theorem lq {m d:Nat}(h:n<=d)(e:Nat.ble m n=true):m<=d:=bQ (bB e) h
end
end Go.Ev


namespace Go.Ev
section
noncomputable section
inductive Hk where
 | no
 | here (X:CD)
 | two (a b:Hk)
abbrev Hk.l(H:Hk):Hk:=match H with | .two a _=>a|_=>.no
abbrev Hk.r(H:Hk):Hk:=match H with | .two _ b=>b|_=>.no
section
variable (fl:Bool)(T:Hh)(call callV round:Ai)(fuel fn n:Nat)(Dt:Option Nat)(out:Nat->CD)(ret:CD)
abbrev Qk(H:Hk):Code->Akl->CD->CD:=
 @Hk.rec (fun _=>Code->Akl->CD->CD) (fun c env k=>Ab7 fl T call callV round fuel fn n Dt out ret c env k) (fun X _ _ _=>X)
  (fun _ _ a b c env k=>match c with
   | .seq x y=>a x env (b y env k)
   | .cond v x y=>fun d tm h ds=>match Eg d v with|some e=>ifE e (a x env k d tm h ds) (b y env k d tm h ds)|none=>none
   | .block id x=>a x ((id,k)::env) k
   | c=>Ab7 fl T call callV round fuel fn n Dt out ret c env k) H
abbrev atH(p:List Bool):Hk->Code->Akl->CD->CD:=
 @List.rec Bool (fun _=>Hk->Code->Akl->CD->CD) (fun _ c env k=>Ab7 fl T call callV round fuel fn n Dt out ret c env k)
  (fun s _ a H c env k=>match c with
   | .seq x y=>Ax s (a H.r y env k) (a H.l x env (Qk fl T call callV round fuel fn n Dt out ret H.r y env k))
   | .cond _ x y=>Ax s (a H.r y env k) (a H.l x env k)
   | .block id x=>a H.l x ((id,k)::env) k
   | c=>Ab7 fl T call callV round fuel fn n Dt out ret c env k) p
end
abbrev A20(p:List Bool)(X:CD):Hk->Hk:=
 @List.rec Bool (fun _=>Hk->Hk) (fun _=>.here X) (fun s _ a H=>Ax s (.two H.l (a H.r)) (.two (a H.l) H.r)) p
def As4(p:List Bool):Hk->Code->Bool:=
 @List.rec Bool (fun _=>Hk->Code->Bool) (fun H _=>match H with | .no=>true|_=>false)
  (fun s _ a H c=>match H with
   | .here _=>false
   | H=>match c with
    | .seq x y=>Ax s (a H.r y) (a H.l x)
    | .cond _ x y=>Ax s (a H.r y) (a H.l x)
    | .block _ x=>Ax s false (a H.l x)
    | _=>false) p
def Bus(p:List Bool):Code->Code:=
 @List.rec Bool (fun _=>Code->Code) (fun c=>c) (fun s _ a c=>match c with
  | .seq x y=>Ax s (a y) (a x)
  | .cond _ x y=>Ax s (a y) (a x)
  | .block _ x=>a x
  | .loop x=>a x
  | c=>c) p
abbrev N7(T:Hh)(g:Nat):Code:=match T.fn g with|some { body:=some c,.. }=>c|_=>.skip
abbrev nOf(T:Hh)(g:Nat):Nat:=match T.fn g with|some f=>f.ntmps|_=>0
abbrev Afu(q:Bool)(T:Hh)(g:Nat):CD:=match T.fn g with|some f=>Bmh q T f.results.toList|_=>fun _ _ _ _=>none
abbrev Bu1(T:Hh)(g:Nat)(p:List Bool):Code:=match Bus p (N7 T g)with | .loop c=>c|c=>c
end
section
variable {fl:Bool}{T:Hh}{call callV round:Ai}{fuel fn n:Nat}{Dt:Option Nat}{out:Nat->CD}{ret:CD}
theorem Bgt(H:Hk)(d:∀X,H≠.here X)(c:Code)(env:Akl)(k:CD):Qk fl T call callV round fuel fn n Dt out ret H c env k=Qk fl T call callV round fuel fn n Dt out ret (.two H.l H.r) c env k:=by
 cases H with
 | no=>cases c<;>rfl
 | here X=>exact(d X rfl).elim
 | two a b=>rfl
theorem Z8(X:CD):∀(p:List Bool) (H:Hk) (c:Code) (env:Akl) (k:CD),As4 p H c=true->atH fl T call callV round fuel fn n Dt out ret p H c env k=X->Qk fl T call callV round fuel fn n Dt out ret H c env k=Qk fl T call callV round fuel fn n Dt out ret (A20 p X H) c env k
 | [],H,c,env,k,o,e=>by
  cases H with
  | no=>exact e
  | here _=>cases o
  | two _ _=>cases o
 | s::p,H,c,env,k,o,e=>by
  have q:∀Y,H≠.here Y:=fun Y y=>by subst y;cases o
  have hs:A20 (s::p) X H=Ax s (.two H.l (A20 p X H.r)) (.two (A20 p X H.l) H.r):=rfl;rw[Bgt H q,hs];have t:∃x y id v,c=.seq x y\/c=.cond v x y\/c=.block id x:=by
   cases H with
   | here Y=>exact(q Y rfl).elim
   | no=>cases c<;>first|exact⟨_,_,0,default,.inl rfl⟩|exact⟨_,_,0,_,.inr (.inl rfl)⟩|exact⟨_,.skip,_,default,.inr (.inr rfl)⟩|cases o
   | two a b=>cases c<;>first|exact⟨_,_,0,default,.inl rfl⟩|exact⟨_,_,0,_,.inr (.inl rfl)⟩|exact⟨_,.skip,_,default,.inr (.inr rfl)⟩|cases o
  obtain⟨x,y,id,v,rfl|rfl|rfl⟩:=t
  ·have d:Ax s (As4 p H.r y) (As4 p H.l x)=true:=by cases H<;>first|exact o|exact(q _ rfl).elim
   have e':Ax s (atH fl T call callV round fuel fn n Dt out ret p H.r y env k) (atH fl T call callV round fuel fn n Dt out ret p H.l x env (Qk fl T call callV round fuel fn n Dt out ret H.r y env k))=X:=e;cases s with
   | true=>show Qk fl T call callV round fuel fn n Dt out ret H.l x env (Qk fl T call callV round fuel fn n Dt out ret H.r y env k)=Qk fl T call callV round fuel fn n Dt out ret H.l x env (Qk fl T call callV round fuel fn n Dt out ret (A20 p X H.r) y env k);rw[Z8 X p H.r y env k d e']
   | false=>exact Z8 X p H.l x env _ d e'
  ·have d:Ax s (As4 p H.r y) (As4 p H.l x)=true:=by cases H<;>first|exact o|exact(q _ rfl).elim
   have e':Ax s (atH fl T call callV round fuel fn n Dt out ret p H.r y env k) (atH fl T call callV round fuel fn n Dt out ret p H.l x env k)=X:=e;cases s with
   | true=>
    show(fun m tm h ds=>match Eg m v with|some e=>ifE e (Qk fl T call callV round fuel fn n Dt out ret H.l x env k m tm h ds) (Qk fl T call callV round fuel fn n Dt out ret H.r y env k m tm h ds)|none=>none)=fun m tm h ds=>match Eg m v with|some e=>ifE e (Qk fl T call callV round fuel fn n Dt out ret H.l x env k m tm h ds) (Qk fl T call callV round fuel fn n Dt out ret (A20 p X H.r) y env k m tm h ds)|none=>none
    rw[Z8 X p H.r y env k d e']
   | false=>
    show(fun m tm h ds=>match Eg m v with|some e=>ifE e (Qk fl T call callV round fuel fn n Dt out ret H.l x env k m tm h ds) (Qk fl T call callV round fuel fn n Dt out ret H.r y env k m tm h ds)|none=>none)=fun m tm h ds=>match Eg m v with|some e=>ifE e (Qk fl T call callV round fuel fn n Dt out ret (A20 p X H.l) x env k m tm h ds) (Qk fl T call callV round fuel fn n Dt out ret H.r y env k m tm h ds)|none=>none
    rw[Z8 X p H.l x env k d e']
  ·have d:Ax s false (As4 p H.l x)=true:=by cases H<;>first|exact o|exact(q _ rfl).elim
   cases s with
   | true=>cases d
   | false=>exact Z8 X p H.l x _ k d e
theorem cut(p:List Bool){H:Hk}{c:Code}{env:Akl}{k X Y Z:CD}(e:Y=X)(a:As4 p H c=true)(b:atH fl T call callV round fuel fn n Dt out ret p H c env k=Y)(rest:Qk fl T call callV round fuel fn n Dt out ret (A20 p X H) c env k=Z):
 Qk fl T call callV round fuel fn n Dt out ret H c env k=Z:=(Z8 X p H c env k a (b.trans e)).trans rest
theorem Qj {B:CD->CD}{E:Nat->CD}(h0:E 0=fun _ _ _ _=>none)(hs:∀m,B (E m)=E (m+1)):∀m,A5o B m=E m
 | 0=>h0.symm
 | m+1=>by
  show B (A5o B m)=_;rw[Qj h0 hs m,hs]
theorem Bub {c:Code}{env:Akl}{E b:Nat->CD}(h0:E 0=fun _ _ _ _=>none)(d:∀m,Qk fl T call callV round fuel fn n Dt out ret .no c env (E m)=b m)(h2:∀m,b m=E (m+1))(m:Nat):A5o (fun a=>Ab7 fl T call callV round fuel fn n Dt out ret c env a) m=E m:=
 Qj (B:=fun a=>Ab7 fl T call callV round fuel fn n Dt out ret c env a) h0 (fun m=>(d m).trans (h2 m)) m
theorem A14 {A B:CD}(e:∀a tm h ds,A a tm h ds=B a tm h ds):A=B:=funext fun a=>funext fun tm=>funext fun h=>funext fun ds=>e a tm h ds
end
noncomputable section
abbrev w0(g:Nat)(f:Ab->R)(c:Ai):Ai:=fun a xs h=>Ax (Nat.beq g a) (@List.rec EV (fun _=>R) (f h) (fun _ _ _=>c a xs h) xs) (c a xs h)
abbrev w1(g:Nat)(f:EV->Ab->R)(c:Ai):Ai:=fun b xs h=>Ax (Nat.beq g b) (match xs with | [a]=>f a h|xs=>c b xs h) (c b xs h)
abbrev w2(g:Nat)(f:EV->EV->Ab->R)(c:Ai):Ai:=fun d xs h=>Ax (Nat.beq g d) (match xs with | [a,b]=>f a b h|xs=>c d xs h) (c d xs h)
abbrev w3(g:Nat)(f:EV->EV->EV->Ab->R)(c:Ai):Ai:=fun e xs h=>Ax (Nat.beq g e) (match xs with | [a,b,d]=>f a b d h|xs=>c e xs h) (c e xs h)
abbrev w4(g:Nat)(f:EV->EV->EV->EV->Ab->R)(c:Ai):Ai:=fun k xs h=>Ax (Nat.beq g k) (match xs with | [a,b,d,e]=>f a b d e h|xs=>c k xs h) (c k xs h)
abbrev w5(g:Nat)(f:EV->EV->EV->EV->EV->Ab->R)(c:Ai):Ai:=fun k xs h=>Ax (Nat.beq g k) (match xs with | [a,b,d,e,i]=>f a b d e i h|xs=>c k xs h) (c k xs h)
abbrev w6(g:Nat)(f:EV->EV->EV->EV->EV->EV->Ab->R)(c:Ai):Ai:=fun k xs h=>Ax (Nat.beq g k) (match xs with | [a,b,d,e,i,j]=>f a b d e i j h|xs=>c k xs h) (c k xs h)
end
section
variable {c x:Ai}{g:Nat}
theorem W0 {f:Ab->R}(e:∀h,c g [] h=f h)(y:c=x):c=w0 g f x:=by
 subst y;funext a xs h;show _=Ax (Nat.beq g a) _ _;cases hb:Nat.beq g a with
 | false=>rfl
 | true=>have:=aL hb;subst this;cases xs<;>first|exact e h|rfl
theorem W1 {f:EV->Ab->R}(e:∀a h,c g [a] h=f a h)(y:c=x):c=w1 g f x:=by
 subst y;funext b xs h;show _=Ax (Nat.beq g b) _ _;cases hb:Nat.beq g b with
 | false=>rfl
 | true=>have:=aL hb;subst this;show c g xs h=(match xs with | [a]=>f a h|xs=>c g xs h);split<;>first|exact e _ h|rfl
theorem W2 {f:EV->EV->Ab->R}(e:∀a b h,c g [a,b] h=f a b h)(y:c=x):c=w2 g f x:=by
 subst y;funext d xs h;show _=Ax (Nat.beq g d) _ _;cases hb:Nat.beq g d with
 | false=>rfl
 | true=>have:=aL hb;subst this;show c g xs h=(match xs with | [a,b]=>f a b h|xs=>c g xs h);split<;>first|exact e _ _ h|rfl
theorem W3 {f:EV->EV->EV->Ab->R}(e:∀a b d h,c g [a,b,d] h=f a b d h)(y:c=x):c=w3 g f x:=by
 subst y;funext k xs h;show _=Ax (Nat.beq g k) _ _;cases hb:Nat.beq g k with
 | false=>rfl
 | true=>have:=aL hb;subst this;show c g xs h=(match xs with | [a,b,d]=>f a b d h|xs=>c g xs h);split<;>first|exact e _ _ _ h|rfl
theorem W4 {f:EV->EV->EV->EV->Ab->R}(e:∀a b d i h,c g [a,b,d,i] h=f a b d i h)(y:c=x):c=w4 g f x:=by
 subst y;funext k xs h;show _=Ax (Nat.beq g k) _ _;cases hb:Nat.beq g k with
 | false=>rfl
 | true=>have:=aL hb;subst this;show c g xs h=(match xs with | [a,b,d,e]=>f a b d e h|xs=>c g xs h);split<;>first|exact e _ _ _ _ h|rfl
theorem W5 {f:EV->EV->EV->EV->EV->Ab->R}(e:∀a b d i j h,c g [a,b,d,i,j] h=f a b d i j h)(y:c=x):c=w5 g f x:=by
 subst y;funext k xs h;show _=Ax (Nat.beq g k) _ _;cases hb:Nat.beq g k with
 | false=>rfl
 | true=>have:=aL hb;subst this;show c g xs h=(match xs with | [a,b,d,e,i]=>f a b d e i h|xs=>c g xs h);split<;>first|exact e _ _ _ _ _ h|rfl
end
noncomputable def A90(T:Hh)(g n:Nat):Bool:=match T.fn g with|some { body:=some _,.. }=>Nat.ble n (nOf T g)|_=>false
theorem Biv {T:Hh}{c r:Ai}{K g:Nat}{args:List EV}(a:A90 T g (Fl args)=true)(h:Ab):Axk T c r K g args h=Qk (Awk (N7 T g)) T c c r K g (nOf T g) none no0 (Afu (Awk (N7 T g)) T g) .no (N7 T g) [] (Afu (Awk (N7 T g)) T g) (Bae args 0 u0) (setArgs args 0 .nil) h []:=by
 unfold A90 nOf at a;unfold Axk nOf Afu N7;cases b:T.fn g with
 | none=>rw[b]at a<;>cases a
 | some fn=>
  rw[b]at a;obtain⟨name,origin,targs,params,d,nfree,n,results,body,e,ours,file,el,k,met,m⟩:=fn;cases body with
  | none=>cases a
  | some o=>
   show Ax (Nat.ble (Fl args) n) _ none=_;rw[show Nat.ble (Fl args) n=true from a,Aj]
end
noncomputable section
open Classical in
def Acz(F:FT):FT:=fun call round K args h=>match F call round K args h with
 | some (v,h')=>if ∀i,i<h.next->h'.get i=h.get i then some (v,⟨h'.t,h'.next,h.mw⟩)else some (v,h')
 | none=>none
end
theorem Bii {F:FT}{call round:Ai}{K:Nat}{args:List EV}{h h':Ab}{v:EV}(e:F call round K args h=some (v,h'))(s:∀i,i<h.next->h'.get i=h.get i):Acz F call round K args h=some (v,⟨h'.t,h'.next,h.mw⟩):=by
 unfold Acz;rw[e];exact aQ s
theorem Bhm {P:Program}{g:Nat}{F:FT}(C:Ae1 P g F):Ae1 P g (Acz F):=by
 intro call round K D E args h v h' e;have Cv:=C call round K D E args h;unfold Acz at e;cases m:F call round K args h with
 | none=>rw[m]at e;cases e
 | some y=>
  obtain⟨v1,d⟩:=y;rw[m]at e;have G:=Cv v1 d m;simp only at e;split at e
  ·rename_i s
   cases e;have gt:∀i,(⟨d.t,d.next,h.mw⟩:Ab).get i=d.get i:=fun i=>by cases d;rfl
   refine⟨G.fn,fun p f w J L b cs=>?_,⟨G.wf.next,aD _,fun q _ M=>by rw[gt];exact s q M,fun q o a=>G.wf.live q o (by rw[<-gt];exact a),fun H q o a=>G.wf.lt H q o (by rw[<-gt];exact a)⟩⟩;obtain⟨fr,f',w',u,A,B,mv,wf,O⟩:=G.run p f w J L b cs;refine⟨fr,f',w',u,A,B,⟨mv.agree,⟨fun i o a=>mv.rep.obj i o (by rw[<-gt];exact a),fun i j o o' k hj=>mv.rep.inj i j o o' (by rw[<-gt];exact k) (by rw[<-gt];exact hj)⟩,mv.kept,mv.size,mv.tape,mv.os,mv.output,fun i o a=>mv.own i o (by rw[<-gt];exact a)⟩,
    ⟨wf.next,aD _,fun i _ k=>by rw[gt];exact s i k,fun i o a=>wf.live i o (by rw[<-gt];exact a),⟨fun i k=>wf.hok.lt i k,fun i o a=>wf.hok.get i o (by rw[<-gt];exact a)⟩⟩,O⟩
  ·cases e
   exact G
end Go.Ev
