import Derived.Test.YtokpnommcenoaaaGreatEvFive
set_option linter.all false
namespace Go.Ev
set_option maxRecDepth 100000
variable {i j n:Nat}{h:Ab}{disp:Nat->Option FT}{f:EV->EV->Option EV}
abbrev I(n:Int):EV:=.int .i64 n
abbrev N(n:Nat):EV:=.int .i64 (.ofNat n)
theorem Aug(a b:Int):ltI a b=decide (a<b):=by
 rw[A8d];cases a<;>cases b<;>simp only[ltB]
 ·rename_i a b;rw[eU,dD];simp[cu];omega
 ·rename_i a b;symm;rw[cS];simp only[aW];omega
 ·rename_i a b;symm;rw[dD];simp only[aW];omega
 ·rename_i a b;rw[eU,dD];simp[cu];omega
theorem Axq(a b:Int):eqI a b=decide (a=b):=by
 rw[A8n];cases a<;>cases b<;>simp only[eqB]
 ·rw[eU,dD];simp[Nat.beq_eq];omega
 ·simp
 ·simp
 ·rw[eU,dD];simp[Nat.beq_eq]
theorem Asq(p:Prop)[Decidable p]:Apy (decide p)=decide (¬p):=by by_cases h:p<;>simp[h,Apy]
theorem Be5(a b:Int):Bmk a b=a+b:=Bbm a b
theorem Bal(a b:Int):Bmd a b=a-b:=Bbt a b
theorem A16 {n:Int}(a : -9223372036854775808<=n)(h2:n<9223372036854775808):Cx .i64 n=n:=by
 unfold Cx;split
 ·rename_i m
  have:Nat.ble (Nat.succ m) (lid .i64)=true:=aR (show m+1<=9223372036854775808 by simp only[aW]at h2;omega);rw[this,Al]
 ·rename_i m
  have:Nat.ble (Nat.succ m) (floor .i64)=true:=aR (show m+1<=9223372036854775808 by simp only[cp]at a;omega);rw[this,Al]
theorem Ac(h:Ab)(o:Dz):(h.new o).get h.next=some o:=by rw[Ab.K6,aN rfl]
theorem Ay(o:Dz)(a:i<h.next):(h.new o).get i=h.get i:=by rw[Ab.K6,aK (by omega)]
theorem Ae(h:Ab)(i:Nat)(o:Dz):(h.put i o).get i=some o:=by rw[Ab.get_put,aN rfl]
theorem Af(o:Dz)(a:i≠j):(h.put i o).get j=h.get j:=by rw[Ab.get_put,aK a]
theorem A8i(a:i≠j):(h.del i).get j=h.get j:=by rw[Ab.Aab,aK a]
theorem Bll {α:Type}(p:Prop)[Decidable p](x y:α):Bb (decide p) x y=if p then x else y:=by by_cases h:p<;>simp[h]
theorem Bao {l:List EV}(h:n<=l.length):takeN l n=some (l.take n):=by
 induction l generalizing n with
 | nil=>
  have:n=0:=by simpa using h
  subst this;rfl
 | cons a r b=>
  cases n with
  | zero=>rfl
  | succ n=>
   simp only[takeN];rw[show Nat.beq (n+1) 0=false from rfl,Bl,Nat.pred_succ,b (by simpa using h)];rfl
theorem Fc {l:List EV}{off:Nat}(h:off+n<=l.length):Mh l off n=some ((l.drop off).take n):=by
 rw[Ag1,Ry,Bao (by rw[ak];omega)]
theorem At0:∀(l:List EV) (n:Nat),Ays l n=l[n]?
 | [],n=>rfl
 | a::r,0=>rfl
 | a::r,n+1=>by
  have e:Ays (a::r) (n+1)=Ays r n:=rfl;rw[e,At0 r n];simp
theorem A02(v:EV):∀(l:List EV) (n:Nat),n<l.length->Mf l n [v]=some (l.set n v)
 | [],n,h=>by simp at h
 | a::r,n,h=>by
  rw[Ui];cases n with
  | zero=>cases r<;>rfl
  | succ n=>
   have e:F6 (a::r) (n+1) [v]=(match F6 r n [v]with|some x=>some (a::x)|none=>none):=rfl;rw[e,<-Ui,A02 v r n (by simpa using h)];rfl
theorem Bf(l:List EV):F9 l=l.length:=by rw[Ahb,Uf]
theorem Bm {l vs:List EV}(h:l.length=vs.length):Mf l 0 vs=some vs:=by
 unfold Mf;rw[Bf,Bf,h,show Nat.beq 0 0=true from rfl,Al,show Nat.beq vs.length vs.length=true from cI _,Al]
section
variable{s:Nat}{g:IG}
theorem Bk9(c:IntKind)(a b:Int):K7 c a b=.bool (ltI a b):=rfl
theorem Bl5(c:IntKind)(a b:Int):Bad c a b=.bool (Apy (ltI b a)):=rfl
theorem Bly(c:IntKind)(a b:Int):A7s c a b=.bool (ltI b a):=rfl
theorem Bml(c:IntKind)(a b:Int):A83 c a b=.bool (Apy (ltI a b)):=rfl
theorem Bmu(c:IntKind)(a b:Int):Ala c a b=.bool (eqI a b):=rfl
theorem Bcn(c:IntKind)(a b:Int):Ake c a b=.bool (Apy (eqI a b)):=rfl
theorem Bl4(c:IntKind)(a b:Int):Az0 c a b=.int c (Cx c (Bmk a b)):=rfl
theorem Bnj:Apy true=false:=rfl
theorem A0p{l:List EV}{t:TypeId}(a:h.get i=some (.cells l t))(F:List EV->Option (List EV))(k:Ab->R):Agk h i F k=oB (fun l'=>k (h.put i (.cells l' t))) (F l):=by
 unfold Agk;rw[a]
theorem Bl6 {q off a rm:Nat}{op:Bool}(hj:j<a)(k:EV->R)(c:IntKind):X8 s (.slice q off a rm op) (.int c (.ofNat j)) k=k (.ptr q (off+j*s)):=by
 show Bb (Nat.ble (Nat.succ j) a) _ none=_;rw[aR hj,Al];rfl
end
section
variable {T:Ih}{call round:Ai}{K:Nat}
theorem Atk{g:Nat}{F:FT}(h:disp g=some F)(d:Nat)(args:List EV)(a:Ab):
 Ag T disp K (d+1) false g args a=F (Ag T disp K d false) (Ag T disp K d true) K args a:=by
 have e:Ag T disp K (d+1) false g args a = @Option.rec FT (fun _=>FnT) (Axb T (Ag T disp K d false) (Ag T disp K d true) K g) (fun F=>F (Ag T disp K d false) (Ag T disp K d true) K) (disp g) args a:=rfl;rw[e,h]
theorem A7q(disp:Nat->Option FT)(d l:Nat)(args:List EV)(a:Ab):
 Ag T disp K (d+1) true l args a=Au6 T (Ag T disp K d false) (Ag T disp K d true) K l args a:=rfl
theorem lq {m d:Nat}(h:n<=d)(e:Nat.ble m n=true):m<=d:=bN (bB e) h
end
end Go.Ev


namespace Go.Ev
noncomputable section
inductive Hk where
 | no
 | here (X:CD)
 | two (a b:Hk)
abbrev Hk.l(H:Hk):Hk:=match H with | .two a _=>a|_=>.no
abbrev Hk.r(H:Hk):Hk:=match H with | .two _ b=>b|_=>.no
section
variable (fl:Bool)(T:Ih)(call callV round:Ai)(fuel fn n:Nat)(Dp:Option Nat)(out:Nat->CD)(ret:CD)
abbrev Ou(H:Hk):Code->Afy->CD->CD:=
 @Hk.rec (fun _=>Code->Afy->CD->CD) (fun c env k=>Abo fl T call callV round fuel fn n Dp out ret c env k) (fun X _ _ _=>X)
  (fun _ _ a b c env k=>match c with
   | .seq x y=>a x env (b y env k)
   | .cond v x y=>fun d tm h ds=>match Eh d v with|some e=>ifE e (a x env k d tm h ds) (b y env k d tm h ds)|none=>none
   | .block id x=>a x ((id,k)::env) k
   | c=>Abo fl T call callV round fuel fn n Dp out ret c env k) H
abbrev atH(p:List Bool):Hk->Code->Afy->CD->CD:=
 @List.rec Bool (fun _=>Hk->Code->Afy->CD->CD) (fun _ c env k=>Abo fl T call callV round fuel fn n Dp out ret c env k)
  (fun s _ a H c env k=>match c with
   | .seq x y=>Bb s (a H.r y env k) (a H.l x env (Ou fl T call callV round fuel fn n Dp out ret H.r y env k))
   | .cond _ x y=>Bb s (a H.r y env k) (a H.l x env k)
   | .block id x=>a H.l x ((id,k)::env) k
   | c=>Abo fl T call callV round fuel fn n Dp out ret c env k) p
end
abbrev Axe(p:List Bool)(X:CD):Hk->Hk:=
 @List.rec Bool (fun _=>Hk->Hk) (fun _=>.here X) (fun s _ a H=>Bb s (.two H.l (a H.r)) (.two (a H.l) H.r)) p
def Abe(p:List Bool):Hk->Code->Bool:=
 @List.rec Bool (fun _=>Hk->Code->Bool) (fun H _=>match H with | .no=>true|_=>false)
  (fun s _ a H c=>match H with
   | .here _=>false
   | H=>match c with
    | .seq x y=>Bb s (a H.r y) (a H.l x)
    | .cond _ x y=>Bb s (a H.r y) (a H.l x)
    | .block _ x=>Bb s false (a H.l x)
    | _=>false) p
def Bmo(p:List Bool):Code->Code:=
 @List.rec Bool (fun _=>Code->Code) (fun c=>c) (fun s _ a c=>match c with
  | .seq x y=>Bb s (a y) (a x)
  | .cond _ x y=>Bb s (a y) (a x)
  | .block _ x=>a x
  | .loop x=>a x
  | c=>c) p
abbrev Iw(T:Ih)(g:Nat):Code:=match T.fn g with|some { body:=some c,.. }=>c|_=>.skip
abbrev nOf(T:Ih)(g:Nat):Nat:=match T.fn g with|some f=>f.ntmps|_=>0
abbrev To(q:Bool)(T:Ih)(g:Nat):CD:=match T.fn g with|some f=>Bis q T f.results.toList|_=>fun _ _ _ _=>none
abbrev Bpo(T:Ih)(g:Nat)(p:List Bool):Code:=match Bmo p (Iw T g)with | .loop c=>c|c=>c
end
section
variable {fl:Bool}{T:Ih}{call callV round:Ai}{fuel fn n:Nat}{Dp:Option Nat}{out:Nat->CD}{ret:CD}
theorem Bd1(H:Hk)(d:∀X,H≠.here X)(c:Code)(env:Afy)(k:CD):Ou fl T call callV round fuel fn n Dp out ret H c env k=Ou fl T call callV round fuel fn n Dp out ret (.two H.l H.r) c env k:=by
 cases H with
 | no=>cases c<;>rfl
 | here X=>exact(d X rfl).elim
 | two a b=>rfl
theorem Vx(X:CD):∀(p:List Bool) (H:Hk) (c:Code) (env:Afy) (k:CD),Abe p H c=true->atH fl T call callV round fuel fn n Dp out ret p H c env k=X->Ou fl T call callV round fuel fn n Dp out ret H c env k=Ou fl T call callV round fuel fn n Dp out ret (Axe p X H) c env k
 | [],H,c,env,k,o,e=>by
  cases H with
  | no=>exact e
  | here _=>cases o
  | two _ _=>cases o
 | s::p,H,c,env,k,o,e=>by
  have q:∀Y,H≠.here Y:=fun Y y=>by subst y;cases o
  have hs:Axe (s::p) X H=Bb s (.two H.l (Axe p X H.r)) (.two (Axe p X H.l) H.r):=rfl;rw[Bd1 H q,hs];have t:∃x y id v,c=.seq x y\/c=.cond v x y\/c=.block id x:=by
   cases H with
   | here Y=>exact(q Y rfl).elim
   | no=>cases c<;>first|exact⟨_,_,0,default,.inl rfl⟩|exact⟨_,_,0,_,.inr (.inl rfl)⟩|exact⟨_,.skip,_,default,.inr (.inr rfl)⟩|cases o
   | two a b=>cases c<;>first|exact⟨_,_,0,default,.inl rfl⟩|exact⟨_,_,0,_,.inr (.inl rfl)⟩|exact⟨_,.skip,_,default,.inr (.inr rfl)⟩|cases o
  obtain⟨x,y,id,v,rfl|rfl|rfl⟩:=t
  ·have d:Bb s (Abe p H.r y) (Abe p H.l x)=true:=by cases H<;>first|exact o|exact(q _ rfl).elim
   have e':Bb s (atH fl T call callV round fuel fn n Dp out ret p H.r y env k) (atH fl T call callV round fuel fn n Dp out ret p H.l x env (Ou fl T call callV round fuel fn n Dp out ret H.r y env k))=X:=e;cases s with
   | true=>show Ou fl T call callV round fuel fn n Dp out ret H.l x env (Ou fl T call callV round fuel fn n Dp out ret H.r y env k)=Ou fl T call callV round fuel fn n Dp out ret H.l x env (Ou fl T call callV round fuel fn n Dp out ret (Axe p X H.r) y env k);rw[Vx X p H.r y env k d e']
   | false=>exact Vx X p H.l x env _ d e'
  ·have d:Bb s (Abe p H.r y) (Abe p H.l x)=true:=by cases H<;>first|exact o|exact(q _ rfl).elim
   have e':Bb s (atH fl T call callV round fuel fn n Dp out ret p H.r y env k) (atH fl T call callV round fuel fn n Dp out ret p H.l x env k)=X:=e;cases s with
   | true=>
    show(fun m tm h ds=>match Eh m v with|some e=>ifE e (Ou fl T call callV round fuel fn n Dp out ret H.l x env k m tm h ds) (Ou fl T call callV round fuel fn n Dp out ret H.r y env k m tm h ds)|none=>none)=fun m tm h ds=>match Eh m v with|some e=>ifE e (Ou fl T call callV round fuel fn n Dp out ret H.l x env k m tm h ds) (Ou fl T call callV round fuel fn n Dp out ret (Axe p X H.r) y env k m tm h ds)|none=>none
    rw[Vx X p H.r y env k d e']
   | false=>
    show(fun m tm h ds=>match Eh m v with|some e=>ifE e (Ou fl T call callV round fuel fn n Dp out ret H.l x env k m tm h ds) (Ou fl T call callV round fuel fn n Dp out ret H.r y env k m tm h ds)|none=>none)=fun m tm h ds=>match Eh m v with|some e=>ifE e (Ou fl T call callV round fuel fn n Dp out ret (Axe p X H.l) x env k m tm h ds) (Ou fl T call callV round fuel fn n Dp out ret H.r y env k m tm h ds)|none=>none
    rw[Vx X p H.l x env k d e']
  ·have d:Bb s false (Abe p H.l x)=true:=by cases H<;>first|exact o|exact(q _ rfl).elim
   cases s with
   | true=>cases d
   | false=>exact Vx X p H.l x _ k d e
theorem cut(p:List Bool){H:Hk}{c:Code}{env:Afy}{k X Y Z:CD}(e:Y=X)(a:Abe p H c=true)(b:atH fl T call callV round fuel fn n Dp out ret p H c env k=Y)(rest:Ou fl T call callV round fuel fn n Dp out ret (Axe p X H) c env k=Z):
 Ou fl T call callV round fuel fn n Dp out ret H c env k=Z:=(Vx X p H c env k a (b.trans e)).trans rest
theorem Ow {B:CD->CD}{E:Nat->CD}(h0:E 0=fun _ _ _ _=>none)(hs:∀m,B (E m)=E (m+1)):∀m,A1x B m=E m
 | 0=>h0.symm
 | m+1=>by
  show B (A1x B m)=_;rw[Ow h0 hs m,hs]
theorem Bpt {c:Code}{env:Afy}{E b:Nat->CD}(h0:E 0=fun _ _ _ _=>none)(d:∀m,Ou fl T call callV round fuel fn n Dp out ret .no c env (E m)=b m)(h2:∀m,b m=E (m+1))(m:Nat):A1x (fun a=>Abo fl T call callV round fuel fn n Dp out ret c env a) m=E m:=
 Ow (B:=fun a=>Abo fl T call callV round fuel fn n Dp out ret c env a) h0 (fun m=>(d m).trans (h2 m)) m
theorem Aw8 {A B:CD}(e:∀a tm h ds,A a tm h ds=B a tm h ds):A=B:=funext fun a=>funext fun tm=>funext fun h=>funext fun ds=>e a tm h ds
end
noncomputable section
abbrev w0(g:Nat)(f:Ab->R)(c:Ai):Ai:=fun a xs h=>Bb (Nat.beq g a) (@List.rec EV (fun _=>R) (f h) (fun _ _ _=>c a xs h) xs) (c a xs h)
abbrev w1(g:Nat)(f:EV->Ab->R)(c:Ai):Ai:=fun b xs h=>Bb (Nat.beq g b) (match xs with | [a]=>f a h|xs=>c b xs h) (c b xs h)
abbrev w2(g:Nat)(f:EV->EV->Ab->R)(c:Ai):Ai:=fun d xs h=>Bb (Nat.beq g d) (match xs with | [a,b]=>f a b h|xs=>c d xs h) (c d xs h)
abbrev w3(g:Nat)(f:EV->EV->EV->Ab->R)(c:Ai):Ai:=fun e xs h=>Bb (Nat.beq g e) (match xs with | [a,b,d]=>f a b d h|xs=>c e xs h) (c e xs h)
abbrev w4(g:Nat)(f:EV->EV->EV->EV->Ab->R)(c:Ai):Ai:=fun k xs h=>Bb (Nat.beq g k) (match xs with | [a,b,d,e]=>f a b d e h|xs=>c k xs h) (c k xs h)
abbrev w5(g:Nat)(f:EV->EV->EV->EV->EV->Ab->R)(c:Ai):Ai:=fun k xs h=>Bb (Nat.beq g k) (match xs with | [a,b,d,e,i]=>f a b d e i h|xs=>c k xs h) (c k xs h)
end
section
variable {c x:Ai}{g:Nat}
theorem W0 {f:Ab->R}(e:∀h,c g [] h=f h)(y:c=x):c=w0 g f x:=by
 subst y;funext a xs h;show _=Bb (Nat.beq g a) _ _;cases hb:Nat.beq g a with
 | false=>rfl
 | true=>have:=aJ hb;subst this;cases xs<;>first|exact e h|rfl
theorem W1 {f:EV->Ab->R}(e:∀a h,c g [a] h=f a h)(y:c=x):c=w1 g f x:=by
 subst y;funext b xs h;show _=Bb (Nat.beq g b) _ _;cases hb:Nat.beq g b with
 | false=>rfl
 | true=>have:=aJ hb;subst this;show c g xs h=(match xs with | [a]=>f a h|xs=>c g xs h);split<;>first|exact e _ h|rfl
theorem W2 {f:EV->EV->Ab->R}(e:∀a b h,c g [a,b] h=f a b h)(y:c=x):c=w2 g f x:=by
 subst y;funext d xs h;show _=Bb (Nat.beq g d) _ _;cases hb:Nat.beq g d with
 | false=>rfl
 | true=>have:=aJ hb;subst this;show c g xs h=(match xs with | [a,b]=>f a b h|xs=>c g xs h);split<;>first|exact e _ _ h|rfl
theorem W3 {f:EV->EV->EV->Ab->R}(e:∀a b d h,c g [a,b,d] h=f a b d h)(y:c=x):c=w3 g f x:=by
 subst y;funext k xs h;show _=Bb (Nat.beq g k) _ _;cases hb:Nat.beq g k with
 | false=>rfl
 | true=>have:=aJ hb;subst this;show c g xs h=(match xs with | [a,b,d]=>f a b d h|xs=>c g xs h);split<;>first|exact e _ _ _ h|rfl
theorem W4 {f:EV->EV->EV->EV->Ab->R}(e:∀a b d i h,c g [a,b,d,i] h=f a b d i h)(y:c=x):c=w4 g f x:=by
 subst y;funext k xs h;show _=Bb (Nat.beq g k) _ _;cases hb:Nat.beq g k with
 | false=>rfl
 | true=>have:=aJ hb;subst this;show c g xs h=(match xs with | [a,b,d,e]=>f a b d e h|xs=>c g xs h);split<;>first|exact e _ _ _ _ h|rfl
theorem W5 {f:EV->EV->EV->EV->EV->Ab->R}(e:∀a b d i j h,c g [a,b,d,i,j] h=f a b d i j h)(y:c=x):c=w5 g f x:=by
 subst y;funext k xs h;show _=Bb (Nat.beq g k) _ _;cases hb:Nat.beq g k with
 | false=>rfl
 | true=>have:=aJ hb;subst this;show c g xs h=(match xs with | [a,b,d,e,i]=>f a b d e i h|xs=>c g xs h);split<;>first|exact e _ _ _ _ _ h|rfl
end
noncomputable def A5d(T:Ih)(g n:Nat):Bool:=match T.fn g with|some { body:=some _,.. }=>Nat.ble n (nOf T g)|_=>false
theorem Bcs {T:Ih}{c r:Ai}{K g:Nat}{args:List EV}(a:A5d T g (F9 args)=true)(h:Ab):Axb T c r K g args h=Ou (Auf (Iw T g)) T c c r K g (nOf T g) none no0 (To (Auf (Iw T g)) T g) .no (Iw T g) [] (To (Auf (Iw T g)) T g) (A46 args 0 u0) (setArgs args 0 .nil) h []:=by
 unfold A5d nOf at a;unfold Axb nOf To Iw;cases b:T.fn g with
 | none=>rw[b]at a<;>cases a
 | some fn=>
  rw[b]at a;obtain⟨name,origin,targs,params,d,nfree,n,results,body,e,ours,file,el,k,met,m⟩:=fn;cases body with
  | none=>cases a
  | some o=>
   show Bb (Nat.ble (F9 args) n) _ none=_;rw[show Nat.ble (F9 args) n=true from a,Al]
end Go.Ev
