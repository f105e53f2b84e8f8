import Derived.Test.YtadnemjjlacolaaGreatEvFive
set_option linter.all false
namespace Go.Ev
set_option maxRecDepth 100000
variable {i j n:Nat}{h:Ab}{disp:Nat->Option FT}{f:EV->EV->Option EV}
abbrev I(n:Int):EV:=.int .i64 n
abbrev N(n:Nat):EV:=.int .i64 (.ofNat n)
theorem Ayg(a b:Int):ltI a b=decide (a<b):=by
 rw[Bfi];cases a<;>cases b<;>simp only[ltB]
 ·rename_i a b;rw[eK,fJ];simp[dJ];omega
 ·rename_i a b;symm;rw[cY];simp only[bB];omega
 ·rename_i a b;symm;rw[fJ];simp only[bB];omega
 ·rename_i a b;rw[eK,fJ];simp[dJ];omega
theorem A3j(a b:Int):eqI a b=decide (a=b):=by
 rw[Bgn];cases a<;>cases b<;>simp only[eqB]
 ·rw[eK,fJ];simp[Nat.beq_eq];omega
 ·simp
 ·simp
 ·rw[eK,fJ];simp[Nat.beq_eq]
theorem Azn(p:Prop)[Decidable p]:Av0 (decide p)=decide (¬p):=by by_cases h:p<;>simp[h,Av0]
theorem Bl9(a b:Int):Brr a b=a+b:=Bjm a b
theorem Bgg(a b:Int):Bq8 a b=a-b:=Bi3 a b
theorem A7l {n:Int}(a : -9223372036854775808<=n)(h2:n<9223372036854775808):Dz .i64 n=n:=by
 unfold Dz;split
 ·rename_i m
  have:Nat.ble (Nat.succ m) (lid .i64)=true:=aS (show m+1<=9223372036854775808 by simp only[bB]at h2;omega);rw[this,Ak]
 ·rename_i m
  have:Nat.ble (Nat.succ m) (floor .i64)=true:=aS (show m+1<=9223372036854775808 by simp only[dF]at a;omega);rw[this,Ak]
theorem Ad(h:Ab)(o:Ec):(h.new o).get h.next=some o:=by rw[Ab.Nq,aG rfl]
theorem Az(o:Ec)(a:i<h.next):(h.new o).get i=h.get i:=by rw[Ab.Nq,aF (by omega)]
theorem Af(h:Ab)(i:Nat)(o:Ec):(h.put i o).get i=some o:=by rw[Ab.get_put,aG rfl]
theorem Ag(o:Ec)(a:i≠j:=by omega):(h.put i o).get j=h.get j:=by rw[Ab.get_put,aF a]
theorem Bfh(a:i≠j):(h.del i).get j=h.get j:=by rw[Ab.Ae0,aF a]
theorem Bs8 {α:Type}(p:Prop)[Decidable p](x y:α):Bf (decide p) x y=if p then x else y:=by by_cases h:p<;>simp[h]
theorem Bfv {l:List EV}(h:n<=l.length):takeN l n=some (l.take n):=by
 induction l generalizing n with
 | nil=>
  have:n=0:=by simpa using h
  subst this;rfl
 | cons a r b=>
  cases n with
  | zero=>rfl
  | succ n=>
   simp only[takeN];rw[show Nat.beq (n+1) 0=false from rfl,Bo,Nat.pred_succ,b (by simpa using h)];rfl
theorem Fw {l:List EV}{off:Nat}(h:off+n<=l.length):Oy l off n=some ((l.drop off).take n):=by
 rw[Aly,Yi,Bfv (by rw[bW];omega)]
theorem Az6:∀(l:List EV) (n:Nat),A4e l n=l[n]?
 | [],n=>rfl
 | a::r,0=>rfl
 | a::r,n+1=>by
  have e:A4e (a::r) (n+1)=A4e r n:=rfl;rw[e,Az6 r n];simp
theorem A78(v:EV):∀(l:List EV) (n:Nat),n<l.length->O0 l n [v]=some (l.set n v)
 | [],n,h=>by simp at h
 | a::r,n,h=>by
  rw[Aab];cases n with
  | zero=>cases r<;>rfl
  | succ n=>
   have e:Gw (a::r) (n+1) [v]=(match Gw r n [v]with|some x=>some (a::x)|none=>none):=rfl;rw[e,<-Aab,A78 v r n (by simpa using h)];rfl
theorem Bc(l:List EV):Gk l=l.length:=by rw[Al3,Zr]
theorem Bm {l vs:List EV}(h:l.length=vs.length):O0 l 0 vs=some vs:=by
 unfold O0;rw[Bc,Bc,h,show Nat.beq 0 0=true from rfl,Ak,show Nat.beq vs.length vs.length=true from cO _,Ak]
section
variable{s:Nat}{g:IG}
theorem Brn(c:IntKind)(a b:Int):Iq c a b=.bool (ltI a b):=rfl
theorem Bs4(c:IntKind)(a b:Int):Bf7 c a b=.bool (Av0 (ltI b a)):=rfl
theorem Brw(c:IntKind)(a b:Int):Beh c a b=.bool (ltI b a):=rfl
theorem Br9(c:IntKind)(a b:Int):Bfp c a b=.bool (Av0 (ltI a b)):=rfl
theorem Bs9(c:IntKind)(a b:Int):An2 c a b=.bool (eqI a b):=rfl
theorem Biw(c:IntKind)(a b:Int):Alb c a b=.bool (Av0 (eqI a b)):=rfl
theorem Br1(c:IntKind)(a b:Int):A6b c a b=.int c (Dz c (Brr a b)):=rfl
theorem Buz:Av0 true=false:=rfl
theorem A55{l:List EV}{t:TypeId}(a:h.get i=some (.cells l t))(F:List EV->Option (List EV))(k:Ab->R):Ani h i F k=oB (fun l'=>k (h.put i (.cells l' t))) (F l):=by
 unfold Ani;rw[a]
theorem Brx {q off a rm:Nat}{op:Bool}(hj:j<a)(k:EV->R)(c:IntKind):Z8 s (.slice q off a rm op) (.int c (.ofNat j)) k=k (.ptr q (off+j*s)):=by
 show Bf (Nat.ble (Nat.succ j) a) _ none=_;rw[aS hj,Ak];rfl
end
section
variable {T:Kh}{call round:Ah}{K:Nat}
theorem Bdg{g:Nat}{F:FT}(h:disp g=some F)(d:Nat)(args:List EV)(hp:Ab):
 Ae T disp K (d+1) false g args hp=F (Ae T disp K d false) (Ae T disp K d true) K args hp:=by
 have e:Ae T disp K (d+1) false g args hp = @Option.rec FT (fun _=>FnT) (A56 T (Ae T disp K d false) (Ae T disp K d true) K g) (fun F=>F (Ae T disp K d false) (Ae T disp K d true) K) (disp g) args hp:=rfl;rw[e,h]
theorem Bdw(disp:Nat->Option FT)(d l:Nat)(args:List EV)(hp:Ab):
 Ae T disp K (d+1) true l args hp=A0q T (Ae T disp K d false) (Ae T disp K d true) K l args hp:=rfl
theorem lq {m d:Nat}(h:n<=d)(e:Nat.ble m n=true):m<=d:=bN (bI e) h
end
end Go.Ev


namespace Go.Ev
noncomputable section
inductive Hk where
 | no
 | here (X:CD)
 | two (a b:Hk)
abbrev Hk.l(H:Hk):Hk:=match H with | .two a _=>a|_=>.no
abbrev Hk.r(H:Hk):Hk:=match H with | .two _ b=>b|_=>.no
section
variable (fl:Bool)(T:Kh)(call callV round:Ah)(fuel fn n:Nat)(Dx:Option Nat)(out:Nat->CD)(ret:CD)
abbrev Qv(H:Hk):Code->Anx->CD->CD:=
 @Hk.rec (fun _=>Code->Anx->CD->CD) (fun c env k=>Abj fl T call callV round fuel fn n Dx out ret c env k) (fun X _ _ _=>X)
  (fun _ _ a b c env k=>match c with
   | .seq x y=>a x env (b y env k)
   | .cond v x y=>fun d tm h ds=>match E2 d v with|some e=>ifE e (a x env k d tm h ds) (b y env k d tm h ds)|none=>none
   | .block id x=>a x ((id,k)::env) k
   | c=>Abj fl T call callV round fuel fn n Dx out ret c env k) H
abbrev atH(p:List Bool):Hk->Code->Anx->CD->CD:=
 @List.rec Bool (fun _=>Hk->Code->Anx->CD->CD) (fun _ c env k=>Abj fl T call callV round fuel fn n Dx out ret c env k)
  (fun s _ a H c env k=>match c with
   | .seq x y=>Bf s (a H.r y env k) (a H.l x env (Qv fl T call callV round fuel fn n Dx out ret H.r y env k))
   | .cond _ x y=>Bf s (a H.r y env k) (a H.l x env k)
   | .block id x=>a H.l x ((id,k)::env) k
   | c=>Abj fl T call callV round fuel fn n Dx out ret c env k) p
end
abbrev A0n(p:List Bool)(X:CD):Hk->Hk:=
 @List.rec Bool (fun _=>Hk->Hk) (fun _=>.here X) (fun s _ a H=>Bf s (.two H.l (a H.r)) (.two (a H.l) H.r)) p
def Asp(p:List Bool):Hk->Code->Bool:=
 @List.rec Bool (fun _=>Hk->Code->Bool) (fun H _=>match H with | .no=>true|_=>false)
  (fun s _ a H c=>match H with
   | .here _=>false
   | H=>match c with
    | .seq x y=>Bf s (a H.r y) (a H.l x)
    | .cond _ x y=>Bf s (a H.r y) (a H.l x)
    | .block _ x=>Bf s false (a H.l x)
    | _=>false) p
def Bwk(p:List Bool):Code->Code:=
 @List.rec Bool (fun _=>Code->Code) (fun c=>c) (fun s _ a c=>match c with
  | .seq x y=>Bf s (a y) (a x)
  | .cond _ x y=>Bf s (a y) (a x)
  | .block _ x=>a x
  | .loop x=>a x
  | c=>c) p
abbrev Ql(T:Kh)(g:Nat):Code:=match T.fn g with|some { body:=some c,.. }=>c|_=>.skip
abbrev nOf(T:Kh)(g:Nat):Nat:=match T.fn g with|some f=>f.ntmps|_=>0
abbrev Aj5(q:Bool)(T:Kh)(g:Nat):CD:=match T.fn g with|some f=>Bo0 q T f.results.toList|_=>fun _ _ _ _=>none
abbrev Bv9(T:Kh)(g:Nat)(p:List Bool):Code:=match Bwk p (Ql T g)with | .loop c=>c|c=>c
end
section
variable {fl:Bool}{T:Kh}{call callV round:Ah}{fuel fn n:Nat}{Dx:Option Nat}{out:Nat->CD}{ret:CD}
theorem Bmf(H:Hk)(d:∀X,H≠.here X)(c:Code)(env:Anx)(k:CD):Qv fl T call callV round fuel fn n Dx out ret H c env k=Qv fl T call callV round fuel fn n Dx out ret (.two H.l H.r) c env k:=by
 cases H with
 | no=>cases c<;>rfl
 | here X=>exact(d X rfl).elim
 | two a b=>rfl
theorem Abl(X:CD):∀(p:List Bool) (H:Hk) (c:Code) (env:Anx) (k:CD),Asp p H c=true->atH fl T call callV round fuel fn n Dx out ret p H c env k=X->Qv fl T call callV round fuel fn n Dx out ret H c env k=Qv fl T call callV round fuel fn n Dx out ret (A0n p X H) c env k
 | [],H,c,env,k,o,e=>by
  cases H with
  | no=>exact e
  | here _=>cases o
  | two _ _=>cases o
 | s::p,H,c,env,k,o,e=>by
  have q:∀Y,H≠.here Y:=fun Y y=>by subst y;cases o
  have hs:A0n (s::p) X H=Bf s (.two H.l (A0n p X H.r)) (.two (A0n p X H.l) H.r):=rfl;rw[Bmf H q,hs];have t:∃x y id v,c=.seq x y\/c=.cond v x y\/c=.block id x:=by
   cases H with
   | here Y=>exact(q Y rfl).elim
   | no=>cases c<;>first|exact⟨_,_,0,default,.inl rfl⟩|exact⟨_,_,0,_,.inr (.inl rfl)⟩|exact⟨_,.skip,_,default,.inr (.inr rfl)⟩|cases o
   | two a b=>cases c<;>first|exact⟨_,_,0,default,.inl rfl⟩|exact⟨_,_,0,_,.inr (.inl rfl)⟩|exact⟨_,.skip,_,default,.inr (.inr rfl)⟩|cases o
  obtain⟨x,y,id,v,rfl|rfl|rfl⟩:=t
  ·have d:Bf s (Asp p H.r y) (Asp p H.l x)=true:=by cases H<;>first|exact o|exact(q _ rfl).elim
   have e':Bf s (atH fl T call callV round fuel fn n Dx out ret p H.r y env k) (atH fl T call callV round fuel fn n Dx out ret p H.l x env (Qv fl T call callV round fuel fn n Dx out ret H.r y env k))=X:=e;cases s with
   | true=>show Qv fl T call callV round fuel fn n Dx out ret H.l x env (Qv fl T call callV round fuel fn n Dx out ret H.r y env k)=Qv fl T call callV round fuel fn n Dx out ret H.l x env (Qv fl T call callV round fuel fn n Dx out ret (A0n p X H.r) y env k);rw[Abl X p H.r y env k d e']
   | false=>exact Abl X p H.l x env _ d e'
  ·have d:Bf s (Asp p H.r y) (Asp p H.l x)=true:=by cases H<;>first|exact o|exact(q _ rfl).elim
   have e':Bf s (atH fl T call callV round fuel fn n Dx out ret p H.r y env k) (atH fl T call callV round fuel fn n Dx out ret p H.l x env k)=X:=e;cases s with
   | true=>
    show(fun m tm h ds=>match E2 m v with|some e=>ifE e (Qv fl T call callV round fuel fn n Dx out ret H.l x env k m tm h ds) (Qv fl T call callV round fuel fn n Dx out ret H.r y env k m tm h ds)|none=>none)=fun m tm h ds=>match E2 m v with|some e=>ifE e (Qv fl T call callV round fuel fn n Dx out ret H.l x env k m tm h ds) (Qv fl T call callV round fuel fn n Dx out ret (A0n p X H.r) y env k m tm h ds)|none=>none
    rw[Abl X p H.r y env k d e']
   | false=>
    show(fun m tm h ds=>match E2 m v with|some e=>ifE e (Qv fl T call callV round fuel fn n Dx out ret H.l x env k m tm h ds) (Qv fl T call callV round fuel fn n Dx out ret H.r y env k m tm h ds)|none=>none)=fun m tm h ds=>match E2 m v with|some e=>ifE e (Qv fl T call callV round fuel fn n Dx out ret (A0n p X H.l) x env k m tm h ds) (Qv fl T call callV round fuel fn n Dx out ret H.r y env k m tm h ds)|none=>none
    rw[Abl X p H.l x env k d e']
  ·have d:Bf s false (Asp p H.l x)=true:=by cases H<;>first|exact o|exact(q _ rfl).elim
   cases s with
   | true=>cases d
   | false=>exact Abl X p H.l x _ k d e
theorem cut(p:List Bool){H:Hk}{c:Code}{env:Anx}{k X Y Z:CD}(e:Y=X)(a:Asp p H c=true)(b:atH fl T call callV round fuel fn n Dx out ret p H c env k=Y)(rest:Qv fl T call callV round fuel fn n Dx out ret (A0n p X H) c env k=Z):
 Qv fl T call callV round fuel fn n Dx out ret H c env k=Z:=(Abl X p H c env k a (b.trans e)).trans rest
theorem Lp {B:CD->CD}{E:Nat->CD}(h0:E 0=fun _ _ _ _=>none)(hs:∀m,B (E m)=E (m+1)):∀m,A7j B m=E m
 | 0=>h0.symm
 | m+1=>by
  show B (A7j B m)=_;rw[Lp h0 hs m,hs]
theorem Bv0 {c:Code}{env:Anx}{E b:Nat->CD}(h0:E 0=fun _ _ _ _=>none)(d:∀m,Qv fl T call callV round fuel fn n Dx out ret .no c env (E m)=b m)(h2:∀m,b m=E (m+1))(m:Nat):A7j (fun a=>Abj fl T call callV round fuel fn n Dx out ret c env a) m=E m:=
 Lp (B:=fun a=>Abj fl T call callV round fuel fn n Dx out ret c env a) h0 (fun m=>(d m).trans (h2 m)) m
theorem Avq {A B:CD}(e:∀a tm h ds,A a tm h ds=B a tm h ds):A=B:=funext fun a=>funext fun tm=>funext fun h=>funext fun ds=>e a tm h ds
end
noncomputable section
abbrev w0(g:Nat)(f:Ab->R)(c:Ah):Ah:=fun a xs h=>Bf (Nat.beq g a) (@List.rec EV (fun _=>R) (f h) (fun _ _ _=>c a xs h) xs) (c a xs h)
abbrev w1(g:Nat)(f:EV->Ab->R)(c:Ah):Ah:=fun b xs h=>Bf (Nat.beq g b) (match xs with | [a]=>f a h|xs=>c b xs h) (c b xs h)
abbrev w2(g:Nat)(f:EV->EV->Ab->R)(c:Ah):Ah:=fun d xs h=>Bf (Nat.beq g d) (match xs with | [a,b]=>f a b h|xs=>c d xs h) (c d xs h)
abbrev w3(g:Nat)(f:EV->EV->EV->Ab->R)(c:Ah):Ah:=fun e xs h=>Bf (Nat.beq g e) (match xs with | [a,b,d]=>f a b d h|xs=>c e xs h) (c e xs h)
abbrev w4(g:Nat)(f:EV->EV->EV->EV->Ab->R)(c:Ah):Ah:=fun k xs h=>Bf (Nat.beq g k) (match xs with | [a,b,d,e]=>f a b d e h|xs=>c k xs h) (c k xs h)
abbrev w5(g:Nat)(f:EV->EV->EV->EV->EV->Ab->R)(c:Ah):Ah:=fun k xs h=>Bf (Nat.beq g k) (match xs with | [a,b,d,e,i]=>f a b d e i h|xs=>c k xs h) (c k xs h)
abbrev w6(g:Nat)(f:EV->EV->EV->EV->EV->EV->Ab->R)(c:Ah):Ah:=fun k xs h=>Bf (Nat.beq g k) (match xs with | [a,b,d,e,i,j]=>f a b d e i j h|xs=>c k xs h) (c k xs h)
end
section
variable {c x:Ah}{g:Nat}
theorem W0 {f:Ab->R}(e:∀h,c g [] h=f h)(y:c=x):c=w0 g f x:=by
 subst y;funext a xs h;show _=Bf (Nat.beq g a) _ _;cases hb:Nat.beq g a with
 | false=>rfl
 | true=>have:=aJ hb;subst this;cases xs<;>first|exact e h|rfl
theorem W1 {f:EV->Ab->R}(e:∀a h,c g [a] h=f a h)(y:c=x):c=w1 g f x:=by
 subst y;funext b xs h;show _=Bf (Nat.beq g b) _ _;cases hb:Nat.beq g b with
 | false=>rfl
 | true=>have:=aJ hb;subst this;show c g xs h=(match xs with | [a]=>f a h|xs=>c g xs h);split<;>first|exact e _ h|rfl
theorem W2 {f:EV->EV->Ab->R}(e:∀a b h,c g [a,b] h=f a b h)(y:c=x):c=w2 g f x:=by
 subst y;funext d xs h;show _=Bf (Nat.beq g d) _ _;cases hb:Nat.beq g d with
 | false=>rfl
 | true=>have:=aJ hb;subst this;show c g xs h=(match xs with | [a,b]=>f a b h|xs=>c g xs h);split<;>first|exact e _ _ h|rfl
theorem W3 {f:EV->EV->EV->Ab->R}(e:∀a b d h,c g [a,b,d] h=f a b d h)(y:c=x):c=w3 g f x:=by
 subst y;funext k xs h;show _=Bf (Nat.beq g k) _ _;cases hb:Nat.beq g k with
 | false=>rfl
 | true=>have:=aJ hb;subst this;show c g xs h=(match xs with | [a,b,d]=>f a b d h|xs=>c g xs h);split<;>first|exact e _ _ _ h|rfl
theorem W4 {f:EV->EV->EV->EV->Ab->R}(e:∀a b d i h,c g [a,b,d,i] h=f a b d i h)(y:c=x):c=w4 g f x:=by
 subst y;funext k xs h;show _=Bf (Nat.beq g k) _ _;cases hb:Nat.beq g k with
 | false=>rfl
 | true=>have:=aJ hb;subst this;show c g xs h=(match xs with | [a,b,d,e]=>f a b d e h|xs=>c g xs h);split<;>first|exact e _ _ _ _ h|rfl
theorem W5 {f:EV->EV->EV->EV->EV->Ab->R}(e:∀a b d i j h,c g [a,b,d,i,j] h=f a b d i j h)(y:c=x):c=w5 g f x:=by
 subst y;funext k xs h;show _=Bf (Nat.beq g k) _ _;cases hb:Nat.beq g k with
 | false=>rfl
 | true=>have:=aJ hb;subst this;show c g xs h=(match xs with | [a,b,d,e,i]=>f a b d e i h|xs=>c g xs h);split<;>first|exact e _ _ _ _ _ h|rfl
end
noncomputable def Bbp(T:Kh)(g n:Nat):Bool:=match T.fn g with|some { body:=some _,.. }=>Nat.ble n (nOf T g)|_=>false
theorem Bkp {T:Kh}{c r:Ah}{K g:Nat}{args:List EV}(a:Bbp T g (Gk args)=true)(h:Ab):A56 T c r K g args h=Qv (Aye (Ql T g)) T c c r K g (nOf T g) none no0 (Aj5 (Aye (Ql T g)) T g) .no (Ql T g) [] (Aj5 (Aye (Ql T g)) T g) (Bcg args 0 u0) (setArgs args 0 .nil) h []:=by
 unfold Bbp nOf at a;unfold A56 nOf Aj5 Ql;cases b:T.fn g with
 | none=>rw[b]at a<;>cases a
 | some fn=>
  rw[b]at a;obtain⟨name,origin,targs,params,d,nfree,n,results,body,e,ours,file,el,k,met,m⟩:=fn;cases body with
  | none=>cases a
  | some o=>
   show Bf (Nat.ble (Gk args) n) _ none=_;rw[show Nat.ble (Gk args) n=true from a,Ak]
end Go.Ev
