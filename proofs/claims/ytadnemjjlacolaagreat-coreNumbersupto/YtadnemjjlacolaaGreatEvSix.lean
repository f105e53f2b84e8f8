import Derived.Test.YtadnemjjlacolaaGreatEvFive
set_option linter.all false
namespace Go.Ev
set_option maxRecDepth 100000
variable {i j n:Nat}{h:Aa}{disp:Nat->Option FT}{f:EV->EV->Option EV}
abbrev I(n:Int):EV:=.int .i64 n
abbrev N(n:Nat):EV:=.int .i64 (.ofNat n)
theorem Ar9(a b:Int):ltI a b=decide (a<b):=by
 rw[Bae];cases a<;>cases b<;>simp only[ltB]
 ·rename_i a b;rw[eD,eh];simp[dD];omega
 ·rename_i a b;symm;rw[cZ];simp only[aZ];omega
 ·rename_i a b;symm;rw[eh];simp only[aZ];omega
 ·rename_i a b;rw[eD,eh];simp[dD];omega
theorem Axc(a b:Int):eqI a b=decide (a=b):=by
 rw[Bao];cases a<;>cases b<;>simp only[eqB]
 ·rw[eD,eh];simp[Nat.beq_eq];omega
 ·simp
 ·simp
 ·rw[eD,eh];simp[Nat.beq_eq]
theorem Asu(p:Prop)[Decidable p]:Apa (decide p)=decide (¬p):=by by_cases h:p<;>simp[h,Apa]
theorem Bdl(a b:Int):Bme a b=a+b:=Ba9 a b
theorem A9u(a b:Int):Bm4 a b=a-b:=Bbi a b
theorem A08 {n:Int}(a : -9223372036854775808<=n)(h2:n<9223372036854775808):De .i64 n=n:=by
 unfold De;split
 ·rename_i m
  have:Nat.ble (Nat.succ m) (lid .i64)=true:=aQ (show m+1<=9223372036854775808 by simp only[aZ]at h2;omega);rw[this,Aj]
 ·rename_i m
  have:Nat.ble (Nat.succ m) (floor .i64)=true:=aQ (show m+1<=9223372036854775808 by simp only[dA]at a;omega);rw[this,Aj]
theorem Ad(h:Aa)(o:Dt):(h.new o).get h.next=some o:=by rw[Aa.K1,aH rfl]
theorem Aw(o:Dt)(a:i<h.next):(h.new o).get i=h.get i:=by rw[Aa.K1,aF (by omega)]
theorem Ae(h:Aa)(i:Nat)(o:Dt):(h.put i o).get i=some o:=by rw[Aa.get_put,aH rfl]
theorem Af(o:Dt)(a:i≠j:=by omega):(h.put i o).get j=h.get j:=by rw[Aa.get_put,aF a]
theorem A8g(a:i≠j):(h.del i).get j=h.get j:=by rw[Aa.Ze,aF a]
theorem Bly {α:Type}(p:Prop)[Decidable p](x y:α):Ba (decide p) x y=if p then x else y:=by by_cases h:p<;>simp[h]
theorem A94 {l:List EV}(h:n<=l.length):takeN l n=some (l.take n):=by
 induction l generalizing n with
 | nil=>
  have:n=0:=by simpa using h
  subst this;rfl
 | cons a r b=>
  cases n with
  | zero=>rfl
  | succ n=>
   simp only[takeN];rw[show Nat.beq (n+1) 0=false from rfl,Bl,Nat.pred_succ,b (by simpa using h)];rfl
theorem E7 {l:List EV}{off:Nat}(h:off+n<=l.length):Mo l off n=some ((l.drop off).take n):=by
 rw[Agm,Rp,A94 (by rw[bT];omega)]
theorem At6:∀(l:List EV) (n:Nat),Ayt l n=l[n]?
 | [],n=>rfl
 | a::r,0=>rfl
 | a::r,n+1=>by
  have e:Ayt (a::r) (n+1)=Ayt r n:=rfl;rw[e,At6 r n];simp
theorem A1t(v:EV):∀(l:List EV) (n:Nat),n<l.length->L7 l n [v]=some (l.set n v)
 | [],n,h=>by simp at h
 | a::r,n,h=>by
  rw[Ue];cases n with
  | zero=>cases r<;>rfl
  | succ n=>
   have e:Fq (a::r) (n+1) [v]=(match Fq r n [v]with|some x=>some (a::x)|none=>none):=rfl;rw[e,<-Ue,A1t v r n (by simpa using h)];rfl
theorem Bc(l:List EV):Fz l=l.length:=by rw[Afz,Tq]
theorem Bk {l vs:List EV}(h:l.length=vs.length):L7 l 0 vs=some vs:=by
 unfold L7;rw[Bc,Bc,h,show Nat.beq 0 0=true from rfl,Aj,show Nat.beq vs.length vs.length=true from cK _,Aj]
section
variable{s:Nat}{g:IG}
theorem Bk6(c:IntKind)(a b:Int):Ky c a b=.bool (ltI a b):=rfl
theorem Bli(c:IntKind)(a b:Int):Bak c a b=.bool (Apa (ltI b a)):=rfl
theorem Bmf(c:IntKind)(a b:Int):A62 c a b=.bool (ltI b a):=rfl
theorem Blp(c:IntKind)(a b:Int):A9e c a b=.bool (Apa (ltI a b)):=rfl
theorem Bk5(c:IntKind)(a b:Int):Al0 c a b=.bool (eqI a b):=rfl
theorem Ba5(c:IntKind)(a b:Int):Ajg c a b=.bool (Apa (eqI a b)):=rfl
theorem Blh(c:IntKind)(a b:Int):A0i c a b=.int c (De c (Bme a b)):=rfl
theorem Bnm:Apa true=false:=rfl
theorem Azn{l:List EV}{t:TypeId}(a:h.get i=some (.cells l t))(F:List EV->Option (List EV))(k:Aa->R):Afn h i F k=oB (fun l'=>k (h.put i (.cells l' t))) (F l):=by
 unfold Afn;rw[a]
theorem Bl6 {q off a rm:Nat}{op:Bool}(hj:j<a)(k:EV->R)(c:IntKind):Aac s (.slice q off a rm op) (.int c (.ofNat j)) k=k (.ptr q (off+j*s)):=by
 show Ba (Nat.ble (Nat.succ j) a) _ none=_;rw[aQ hj,Aj];rfl
end
section
variable {T:H7}{call round:Ai}{K:Nat}
theorem A5z{g:Nat}{F:FT}(h:disp g=some F)(d:Nat)(args:List EV)(hp:Aa):
 Ag T disp K (d+1) false g args hp=F (Ag T disp K d false) (Ag T disp K d true) K args hp:=by
 have e:Ag T disp K (d+1) false g args hp = @Option.rec FT (fun _=>FnT) (A0c T (Ag T disp K d false) (Ag T disp K d true) K g) (fun F=>F (Ag T disp K d false) (Ag T disp K d true) K) (disp g) args hp:=rfl;rw[e,h]
theorem A6u(disp:Nat->Option FT)(d l:Nat)(args:List EV)(hp:Aa):
 Ag T disp K (d+1) true l args hp=Auy T (Ag T disp K d false) (Ag T disp K d true) K l args hp:=rfl
theorem lq {m d:Nat}(h:n<=d)(e:Nat.ble m n=true):m<=d:=bN (bG e) h
end
end Go.Ev


namespace Go.Ev
noncomputable section
inductive Hk where
 | no
 | here (X:CD)
 | two (a b:Hk)
abbrev Hk.l(H:Hk):Hk:=match H with | .two a _=>a|_=>.no
abbrev Hk.r(H:Hk):Hk:=match H with | .two _ b=>b|_=>.no
section
variable (fl:Bool)(T:H7)(call callV round:Ai)(fuel fn n:Nat)(Dc:Option Nat)(out:Nat->CD)(ret:CD)
abbrev Pz(H:Hk):Code->Aih->CD->CD:=
 @Hk.rec (fun _=>Code->Aih->CD->CD) (fun c env k=>Aad fl T call callV round fuel fn n Dc out ret c env k) (fun X _ _ _=>X)
  (fun _ _ a b c env k=>match c with
   | .seq x y=>a x env (b y env k)
   | .cond v x y=>fun d tm h ds=>match D8 d v with|some e=>ifE e (a x env k d tm h ds) (b y env k d tm h ds)|none=>none
   | .block id x=>a x ((id,k)::env) k
   | c=>Aad fl T call callV round fuel fn n Dc out ret c env k) H
abbrev atH(p:List Bool):Hk->Code->Aih->CD->CD:=
 @List.rec Bool (fun _=>Hk->Code->Aih->CD->CD) (fun _ c env k=>Aad fl T call callV round fuel fn n Dc out ret c env k)
  (fun s _ a H c env k=>match c with
   | .seq x y=>Ba s (a H.r y env k) (a H.l x env (Pz fl T call callV round fuel fn n Dc out ret H.r y env k))
   | .cond _ x y=>Ba s (a H.r y env k) (a H.l x env k)
   | .block id x=>a H.l x ((id,k)::env) k
   | c=>Aad fl T call callV round fuel fn n Dc out ret c env k) p
end
abbrev Aya(p:List Bool)(X:CD):Hk->Hk:=
 @List.rec Bool (fun _=>Hk->Hk) (fun _=>.here X) (fun s _ a H=>Ba s (.two H.l (a H.r)) (.two (a H.l) H.r)) p
def Apz(p:List Bool):Hk->Code->Bool:=
 @List.rec Bool (fun _=>Hk->Code->Bool) (fun H _=>match H with | .no=>true|_=>false)
  (fun s _ a H c=>match H with
   | .here _=>false
   | H=>match c with
    | .seq x y=>Ba s (a H.r y) (a H.l x)
    | .cond _ x y=>Ba s (a H.r y) (a H.l x)
    | .block _ x=>Ba s false (a H.l x)
    | _=>false) p
def Bp7(p:List Bool):Code->Code:=
 @List.rec Bool (fun _=>Code->Code) (fun c=>c) (fun s _ a c=>match c with
  | .seq x y=>Ba s (a y) (a x)
  | .cond _ x y=>Ba s (a y) (a x)
  | .block _ x=>a x
  | .loop x=>a x
  | c=>c) p
abbrev Nt(T:H7)(g:Nat):Code:=match T.fn g with|some { body:=some c,.. }=>c|_=>.skip
abbrev nOf(T:H7)(g:Nat):Nat:=match T.fn g with|some f=>f.ntmps|_=>0
abbrev Afb(q:Bool)(T:H7)(g:Nat):CD:=match T.fn g with|some f=>Bgm q T f.results.toList|_=>fun _ _ _ _=>none
abbrev Bp8(T:H7)(g:Nat)(p:List Bool):Code:=match Bp7 p (Nt T g)with | .loop c=>c|c=>c
end
section
variable {fl:Bool}{T:H7}{call callV round:Ai}{fuel fn n:Nat}{Dc:Option Nat}{out:Nat->CD}{ret:CD}
theorem Bec(H:Hk)(d:∀X,H≠.here X)(c:Code)(env:Aih)(k:CD):Pz fl T call callV round fuel fn n Dc out ret H c env k=Pz fl T call callV round fuel fn n Dc out ret (.two H.l H.r) c env k:=by
 cases H with
 | no=>cases c<;>rfl
 | here X=>exact(d X rfl).elim
 | two a b=>rfl
theorem Yo(X:CD):∀(p:List Bool) (H:Hk) (c:Code) (env:Aih) (k:CD),Apz p H c=true->atH fl T call callV round fuel fn n Dc out ret p H c env k=X->Pz fl T call callV round fuel fn n Dc out ret H c env k=Pz fl T call callV round fuel fn n Dc out ret (Aya p X H) c env k
 | [],H,c,env,k,o,e=>by
  cases H with
  | no=>exact e
  | here _=>cases o
  | two _ _=>cases o
 | s::p,H,c,env,k,o,e=>by
  have q:∀Y,H≠.here Y:=fun Y y=>by subst y;cases o
  have hs:Aya (s::p) X H=Ba s (.two H.l (Aya p X H.r)) (.two (Aya p X H.l) H.r):=rfl;rw[Bec H q,hs];have t:∃x y id v,c=.seq x y\/c=.cond v x y\/c=.block id x:=by
   cases H with
   | here Y=>exact(q Y rfl).elim
   | no=>cases c<;>first|exact⟨_,_,0,default,.inl rfl⟩|exact⟨_,_,0,_,.inr (.inl rfl)⟩|exact⟨_,.skip,_,default,.inr (.inr rfl)⟩|cases o
   | two a b=>cases c<;>first|exact⟨_,_,0,default,.inl rfl⟩|exact⟨_,_,0,_,.inr (.inl rfl)⟩|exact⟨_,.skip,_,default,.inr (.inr rfl)⟩|cases o
  obtain⟨x,y,id,v,rfl|rfl|rfl⟩:=t
  ·have d:Ba s (Apz p H.r y) (Apz p H.l x)=true:=by cases H<;>first|exact o|exact(q _ rfl).elim
   have e':Ba s (atH fl T call callV round fuel fn n Dc out ret p H.r y env k) (atH fl T call callV round fuel fn n Dc out ret p H.l x env (Pz fl T call callV round fuel fn n Dc out ret H.r y env k))=X:=e;cases s with
   | true=>show Pz fl T call callV round fuel fn n Dc out ret H.l x env (Pz fl T call callV round fuel fn n Dc out ret H.r y env k)=Pz fl T call callV round fuel fn n Dc out ret H.l x env (Pz fl T call callV round fuel fn n Dc out ret (Aya p X H.r) y env k);rw[Yo X p H.r y env k d e']
   | false=>exact Yo X p H.l x env _ d e'
  ·have d:Ba s (Apz p H.r y) (Apz p H.l x)=true:=by cases H<;>first|exact o|exact(q _ rfl).elim
   have e':Ba s (atH fl T call callV round fuel fn n Dc out ret p H.r y env k) (atH fl T call callV round fuel fn n Dc out ret p H.l x env k)=X:=e;cases s with
   | true=>
    show(fun m tm h ds=>match D8 m v with|some e=>ifE e (Pz fl T call callV round fuel fn n Dc out ret H.l x env k m tm h ds) (Pz fl T call callV round fuel fn n Dc out ret H.r y env k m tm h ds)|none=>none)=fun m tm h ds=>match D8 m v with|some e=>ifE e (Pz fl T call callV round fuel fn n Dc out ret H.l x env k m tm h ds) (Pz fl T call callV round fuel fn n Dc out ret (Aya p X H.r) y env k m tm h ds)|none=>none
    rw[Yo X p H.r y env k d e']
   | false=>
    show(fun m tm h ds=>match D8 m v with|some e=>ifE e (Pz fl T call callV round fuel fn n Dc out ret H.l x env k m tm h ds) (Pz fl T call callV round fuel fn n Dc out ret H.r y env k m tm h ds)|none=>none)=fun m tm h ds=>match D8 m v with|some e=>ifE e (Pz fl T call callV round fuel fn n Dc out ret (Aya p X H.l) x env k m tm h ds) (Pz fl T call callV round fuel fn n Dc out ret H.r y env k m tm h ds)|none=>none
    rw[Yo X p H.l x env k d e']
  ·have d:Ba s false (Apz p H.l x)=true:=by cases H<;>first|exact o|exact(q _ rfl).elim
   cases s with
   | true=>cases d
   | false=>exact Yo X p H.l x _ k d e
theorem cut(p:List Bool){H:Hk}{c:Code}{env:Aih}{k X Y Z:CD}(e:Y=X)(a:Apz p H c=true)(b:atH fl T call callV round fuel fn n Dc out ret p H c env k=Y)(rest:Pz fl T call callV round fuel fn n Dc out ret (Aya p X H) c env k=Z):
 Pz fl T call callV round fuel fn n Dc out ret H c env k=Z:=(Yo X p H c env k a (b.trans e)).trans rest
theorem Uc {B:CD->CD}{E:Nat->CD}(h0:E 0=fun _ _ _ _=>none)(hs:∀m,B (E m)=E (m+1)):∀m,A1l B m=E m
 | 0=>h0.symm
 | m+1=>by
  show B (A1l B m)=_;rw[Uc h0 hs m,hs]
theorem Bp1 {c:Code}{env:Aih}{E b:Nat->CD}(h0:E 0=fun _ _ _ _=>none)(d:∀m,Pz fl T call callV round fuel fn n Dc out ret .no c env (E m)=b m)(h2:∀m,b m=E (m+1))(m:Nat):A1l (fun a=>Aad fl T call callV round fuel fn n Dc out ret c env a) m=E m:=
 Uc (B:=fun a=>Aad fl T call callV round fuel fn n Dc out ret c env a) h0 (fun m=>(d m).trans (h2 m)) m
theorem A2r {A B:CD}(e:∀a tm h ds,A a tm h ds=B a tm h ds):A=B:=funext fun a=>funext fun tm=>funext fun h=>funext fun ds=>e a tm h ds
end
noncomputable section
abbrev w0(g:Nat)(f:Aa->R)(c:Ai):Ai:=fun a xs h=>Ba (Nat.beq g a) (@List.rec EV (fun _=>R) (f h) (fun _ _ _=>c a xs h) xs) (c a xs h)
abbrev w1(g:Nat)(f:EV->Aa->R)(c:Ai):Ai:=fun b xs h=>Ba (Nat.beq g b) (match xs with | [a]=>f a h|xs=>c b xs h) (c b xs h)
abbrev w2(g:Nat)(f:EV->EV->Aa->R)(c:Ai):Ai:=fun d xs h=>Ba (Nat.beq g d) (match xs with | [a,b]=>f a b h|xs=>c d xs h) (c d xs h)
abbrev w3(g:Nat)(f:EV->EV->EV->Aa->R)(c:Ai):Ai:=fun e xs h=>Ba (Nat.beq g e) (match xs with | [a,b,d]=>f a b d h|xs=>c e xs h) (c e xs h)
abbrev w4(g:Nat)(f:EV->EV->EV->EV->Aa->R)(c:Ai):Ai:=fun k xs h=>Ba (Nat.beq g k) (match xs with | [a,b,d,e]=>f a b d e h|xs=>c k xs h) (c k xs h)
abbrev w5(g:Nat)(f:EV->EV->EV->EV->EV->Aa->R)(c:Ai):Ai:=fun k xs h=>Ba (Nat.beq g k) (match xs with | [a,b,d,e,i]=>f a b d e i h|xs=>c k xs h) (c k xs h)
abbrev w6(g:Nat)(f:EV->EV->EV->EV->EV->EV->Aa->R)(c:Ai):Ai:=fun k xs h=>Ba (Nat.beq g k) (match xs with | [a,b,d,e,i,j]=>f a b d e i j h|xs=>c k xs h) (c k xs h)
end
section
variable {c x:Ai}{g:Nat}
theorem W0 {f:Aa->R}(e:∀h,c g [] h=f h)(y:c=x):c=w0 g f x:=by
 subst y;funext a xs h;show _=Ba (Nat.beq g a) _ _;cases hb:Nat.beq g a with
 | false=>rfl
 | true=>have:=aJ hb;subst this;cases xs<;>first|exact e h|rfl
theorem W1 {f:EV->Aa->R}(e:∀a h,c g [a] h=f a h)(y:c=x):c=w1 g f x:=by
 subst y;funext b xs h;show _=Ba (Nat.beq g b) _ _;cases hb:Nat.beq g b with
 | false=>rfl
 | true=>have:=aJ hb;subst this;show c g xs h=(match xs with | [a]=>f a h|xs=>c g xs h);split<;>first|exact e _ h|rfl
theorem W2 {f:EV->EV->Aa->R}(e:∀a b h,c g [a,b] h=f a b h)(y:c=x):c=w2 g f x:=by
 subst y;funext d xs h;show _=Ba (Nat.beq g d) _ _;cases hb:Nat.beq g d with
 | false=>rfl
 | true=>have:=aJ hb;subst this;show c g xs h=(match xs with | [a,b]=>f a b h|xs=>c g xs h);split<;>first|exact e _ _ h|rfl
theorem W3 {f:EV->EV->EV->Aa->R}(e:∀a b d h,c g [a,b,d] h=f a b d h)(y:c=x):c=w3 g f x:=by
 subst y;funext k xs h;show _=Ba (Nat.beq g k) _ _;cases hb:Nat.beq g k with
 | false=>rfl
 | true=>have:=aJ hb;subst this;show c g xs h=(match xs with | [a,b,d]=>f a b d h|xs=>c g xs h);split<;>first|exact e _ _ _ h|rfl
theorem W4 {f:EV->EV->EV->EV->Aa->R}(e:∀a b d i h,c g [a,b,d,i] h=f a b d i h)(y:c=x):c=w4 g f x:=by
 subst y;funext k xs h;show _=Ba (Nat.beq g k) _ _;cases hb:Nat.beq g k with
 | false=>rfl
 | true=>have:=aJ hb;subst this;show c g xs h=(match xs with | [a,b,d,e]=>f a b d e h|xs=>c g xs h);split<;>first|exact e _ _ _ _ h|rfl
theorem W5 {f:EV->EV->EV->EV->EV->Aa->R}(e:∀a b d i j h,c g [a,b,d,i,j] h=f a b d i j h)(y:c=x):c=w5 g f x:=by
 subst y;funext k xs h;show _=Ba (Nat.beq g k) _ _;cases hb:Nat.beq g k with
 | false=>rfl
 | true=>have:=aJ hb;subst this;show c g xs h=(match xs with | [a,b,d,e,i]=>f a b d e i h|xs=>c g xs h);split<;>first|exact e _ _ _ _ _ h|rfl
end
noncomputable def A64(T:H7)(g n:Nat):Bool:=match T.fn g with|some { body:=some _,.. }=>Nat.ble n (nOf T g)|_=>false
theorem Bev {T:H7}{c r:Ai}{K g:Nat}{args:List EV}(a:A64 T g (Fz args)=true)(h:Aa):A0c T c r K g args h=Pz (At7 (Nt T g)) T c c r K g (nOf T g) none no0 (Afb (At7 (Nt T g)) T g) .no (Nt T g) [] (Afb (At7 (Nt T g)) T g) (A79 args 0 u0) (setArgs args 0 .nil) h []:=by
 unfold A64 nOf at a;unfold A0c nOf Afb Nt;cases b:T.fn g with
 | none=>rw[b]at a<;>cases a
 | some fn=>
  rw[b]at a;obtain⟨name,origin,targs,params,d,nfree,n,results,body,e,ours,file,el,k,met,m⟩:=fn;cases body with
  | none=>cases a
  | some o=>
   show Ba (Nat.ble (Fz args) n) _ none=_;rw[show Nat.ble (Fz args) n=true from a,Aj]
end Go.Ev
