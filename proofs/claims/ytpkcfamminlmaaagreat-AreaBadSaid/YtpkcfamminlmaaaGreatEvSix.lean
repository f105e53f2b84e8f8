import Derived.Test.YtpkcfamminlmaaaGreatEvFive
set_option linter.unusedVariables false
set_option linter.unusedSimpArgs false
set_option linter.unusedSectionVars false
namespace Go.Ev
noncomputable section
def Aik(h:Aa)(i:Nat):Option Cu:=Dc (pathOf i) h.t
end
end Go.Ev

namespace Go.Ev
theorem Jd(tm:Ag)(j i:Nat)(v:EV):tmp (tm.put j (some v)) i=if j=i then v else tmp tm i:=by
 unfold tmp;rw[Tr.get_put];by_cases h:j=i <;> simp[h]
theorem D5 {k:Ag->Option EV}{i:Nat}(h:k=Dc (pathOf i))(tm:Ag):gO k tm=tmp tm i:=by
 subst h;exact Z1 tm i
theorem D4 {p:PF}{i:Nat}(h:p=Ix (pathOf i))(v:Option EV)(tm:Ag):p v tm=tm.put i v:=by
 subst h;exact Ag4 tm i v
noncomputable def Au(v:EV)(w:Bool):Bool:=match v with | .bool b=>Ar b w (Aax w)|_=>false
theorem Bq {k:Ag->Option EV}{i:Nat}(h:k=Dc (pathOf i))(w:Bool)(tm:Ag):By k w tm=Au (tmp tm i) w:=by
 subst h
 unfold By Au tmp
 rw[Ak0]
 cases tm.get i with
 | none=>rfl
 | some v=>cases v <;> rfl
abbrev I(n:Int):EV:=.int .i64 n
abbrev N(n:Nat):EV:=.int .i64 (.ofNat n)
theorem Aii(a b:Int):ltI a b=decide (a<b):=by
 rw[At0]
 cases a <;> cases b <;> simp only[ltB]
 ·rename_i a b;rw[Bool.eq_iff_iff,decide_eq_true_iff];simp[Nat.ble_eq];omega
 ·rename_i a b;symm;rw[decide_eq_false_iff_not];simp only[Int.ofNat_eq_natCast];omega
 ·rename_i a b;symm;rw[decide_eq_true_iff];simp only[Int.ofNat_eq_natCast];omega
 ·rename_i a b;rw[Bool.eq_iff_iff,decide_eq_true_iff];simp[Nat.ble_eq];omega
theorem Apv(a b:Int):eqI a b=decide (a=b):=by
 rw[Au9]
 cases a <;> cases b <;> simp only[eqB]
 ·rw[Bool.eq_iff_iff,decide_eq_true_iff];simp[Nat.beq_eq];omega
 ·simp
 ·simp
 ·rw[Bool.eq_iff_iff,decide_eq_true_iff];simp[Nat.beq_eq]
theorem Alc(p:Prop)[Decidable p]:Aax (decide p)=decide (¬ p):=by by_cases h:p <;> simp[h,Aax]
theorem Azc(a b:Int):A4b a b=a+b:=Awr a b
theorem At6(a b:Int):A5i a b=a-b:=Axl a b
theorem Aoq {n:Int}(h1 : -9223372036854775808<=n)(h2:n<9223372036854775808):Dk .i64 n=n:=by
 unfold Dk
 split
 ·rename_i m
  have:Nat.ble (Nat.succ m) (lid .i64)=true:=Nat.ble_eq_true_of_le (show m+1<=9223372036854775808 by simp only[Int.ofNat_eq_natCast]at h2;omega)
  rw[this,Ak]
 ·rename_i m
  have:Nat.ble (Nat.succ m) (floor .i64)=true:=Nat.ble_eq_true_of_le (show m+1<=9223372036854775808 by simp only[Int.negSucc_eq]at h1;omega)
  rw[this,Ak]
theorem Ae(h:Aa)(o:Cu):(h.new o).get h.next=some o:=by rw[Aa.Hz,if_pos rfl]
theorem Bj {h:Aa}(o:Cu){i:Nat}(hi:i<h.next):(h.new o).get i=h.get i:=by rw[Aa.Hz,if_neg (by omega)]
theorem Ai(h:Aa)(i:Nat)(o:Cu):(h.put i o).get i=some o:=by rw[Aa.get_put,if_pos rfl]
theorem Al {h:Aa}{i j:Nat}(o:Cu)(hi:i ≠ j):(h.put i o).get j=h.get j:=by rw[Aa.get_put,if_neg hi]
theorem At5 {h:Aa}{i j:Nat}(hi:i ≠ j):(h.del i).get j=h.get j:=by rw[Aa.Rs,if_neg hi]
theorem A4j {α:Type}(p:Prop)[Decidable p](x y:α):Ar (decide p) x y=if p then x else y:=by by_cases h:p <;> simp[h]
end Go.Ev


namespace Go.Ev
theorem Avr {l:List EV}{n:Nat}(h:n<=l.length):takeN l n=some (l.take n):=by
 induction l generalizing n with
 | nil=>
  have:n=0:=by simpa using h
  subst this;rfl
 | cons a r ih=>
  cases n with
  | zero=>rfl
  | succ n=>
   simp only[takeN]
   rw[show Nat.beq (n+1) 0=false from rfl,Av,Nat.pred_succ,ih (by simpa using h)]
   rfl
theorem Ki {l:List EV}{off n:Nat}(h:off+n<=l.length):Na l off n=some ((l.drop off).take n):=by
 rw[Wk,Lb,Avr (by rw[List.length_drop];omega)]
theorem Aho:∀ (l:List EV) (n:Nat),Ai2 l n=l[n]?
 | [],n=>rfl
 | a::r,0=>rfl
 | a::r,n+1=>by
  have e:Ai2 (a::r) (n+1)=Ai2 r n:=rfl
  rw[e,Aho r n];simp
theorem Ao9(v:EV):∀ (l:List EV) (n:Nat),n<l.length->Kl l n [v]=some (l.set n v)
 | [],n,h=>by simp at h
 | a::r,n,h=>by
  rw[X3]
  cases n with
  | zero=>cases r <;> rfl
  | succ n=>
   have e:E2 (a::r) (n+1) [v]=(match E2 r n [v] with|some x=>some (a::x)|none=>none):=rfl
   rw[e,<-X3,Ao9 v r n (by simpa using h)]
   rfl
theorem Dx(l:List EV):K9 l=l.length:=by rw[W5,O6]
theorem Gc {l vs:List EV}(h:l.length=vs.length):Kl l 0 vs=some vs:=by
 unfold Kl
 rw[Dx,Dx,h,show Nat.beq 0 0=true from rfl,Ak,show Nat.beq vs.length vs.length=true from Nat.beq_refl _,Ak]
section
variable {e a x:EF}{k:KF}{tm:Ag}{h h':Aa}{ds:List Nat}{i off n:Nat}{l:List EV}{v:EV}
end
noncomputable section
def Ae5(x:Option Cu)(off n:Nat):Option (List EV):=Wi (fun l o=>Na l o n) off x
def Aq(g:IG)(f:EV->EV->Option EV)(x y:EV)(k:EV->R):R:=
 match x,y with
 | .int c x,.int c' y=>Ar (Nat.beq (Le c) (Le c')) (k (g c x y)) none
 | x,y=>oB k (f x y)
def Ao(x:EV)(h:Aa)(k:EV->R):R:=Ke (fun i off=>oB (fun l=>match l with | [v]=>k v|_=>none) (Ae5 (h.get i) off 1)) x
def Ck(n:Nat)(x:EV)(h:Aa)(k:EV->R):R:=Ke (fun i off=>oB (fun l=>k (.agg l)) (Ae5 (h.get i) off n)) x
def I9(n:Nat)(a v:EV)(h:Aa)(k:Aa->R):R:=Ke (fun i off=>Ar v.plain (Ar (Nat.beq (K9 v.cells) n) (Un h i (fun l=>Kl l off v.cells) k) none) none) a
def Ib(s:Nat)(x ix:EV)(k:EV->R):R:=Avl (fun j=>match x with | .slice i off len _ _=>Ar (Nat.ble (Nat.succ j) len) (k (.ptr i (Nat.add off (Nat.mul j s)))) none|_=>none) ix
end
section
variable {e a b x ix:EF}{k:KF}{c1 c2:CF}{tm:Ag}{h:Aa}{ds:List Nat}{n m s:Nat}{g:IG}{f:EV->EV->Option EV}
theorem A5m(c:IntKind)(a b:Int):Gr c a b=.bool (ltI a b):=rfl
theorem A41(c:IntKind)(a b:Int):Ahs c a b=.bool (Aax (ltI b a)):=rfl
theorem A4e(c:IntKind)(a b:Int):Ye c a b=.bool (ltI b a):=rfl
theorem A47(c:IntKind)(a b:Int):V5 c a b=.bool (Aax (ltI a b)):=rfl
theorem A4y(c:IntKind)(a b:Int):G7 c a b=.bool (eqI a b):=rfl
theorem A4k(c:IntKind)(a b:Int):Ka c a b=.bool (Aax (eqI a b)):=rfl
theorem A5j(c:IntKind)(a b:Int):Hj c a b=.int c (Dk c (A4b a b)):=rfl
theorem A6s:Aax true=false:=rfl
theorem Ao3:Lw e k tm h ds=Ao (e tm) h (fun v=>k v tm h ds):=by
 unfold Lw Ao Ke
 cases e tm <;> try rfl
 rename_i i off
 simp only
 have key:∀ (L:List EV) (o:Nat),oB (fun v=>k v tm h ds) (Ai2 L o)=oB (fun l=>match l with | [v]=>k v tm h ds|_=>none) (Na L o 1):=by
  intro L o
  rw[Aho,<-List.head?_drop,Wk,Lb]
  cases L.drop o with
  | nil=>rfl
  | cons b r=>cases r <;> rfl
 unfold Ae5 Wi
 cases h.get i with
 | none=>rfl
 | some x=>
  cases x <;> try rfl
  ·exact key _ _
  ·exact key _ _
  ·rename_i ws r0
   simp only
   cases Abp ws off with
   | none=>rfl
   | some x=>exact key _ _
theorem Aow:Aqw n e k tm h ds=Ck n (e tm) h (fun v=>k v tm h ds):=by
 unfold Aqw Ck Ke
 cases e tm <;> try rfl
 rename_i i off
 simp only
 unfold Ae5 Wi
 cases h.get i with
 | none=>rfl
 | some x=>
  cases x <;> try rfl
  rename_i ws r0
  simp only
  cases Abp ws off <;> rfl
theorem Anh {i:Nat}{l:List EV}{t:TypeId}(hg:h.get i=some (.cells l t))(F:List EV->Option (List EV))(k:Aa->R):Un h i F k=oB (fun l'=>k (h.put i (.cells l' t))) (F l):=by
 unfold Un;rw[hg]
theorem Ao6:Aln s e ix k tm h ds=Ib s (e tm) (ix tm) (fun v=>k v tm h ds):=by
 unfold Aln Ib
 cases e tm <;> rfl
theorem A4a {q off ln rm:Nat}{op:Bool}{j:Nat}(hj:j<ln)(k:EV->R)(c:IntKind):Ib s (.slice q off ln rm op) (.int c (.ofNat j)) k=k (.ptr q (off+j*s)):=by
 show Ar (Nat.ble (Nat.succ j) ln) _ none=_
 rw[Nat.ble_eq_true_of_le hj,Ak];rfl
theorem Aug(c:CF->CF)(m:Nat):Aj8 c (m+1)=c (Aj8 c m):=rfl
end
end Go.Ev

namespace Go.Ev
def Has(h:Aa)(l:List (Nat × Cu)):Prop:=∀ x ∈ l,h.get x.1=some x.2/\x.1<h.next
theorem Has.nil(h:Aa):Has h []:=fun _ hx=>by cases hx
section
variable {T:D7}{call round:Ac}{K:Nat}
theorem Xy {disp:Nat->Option FT}{g:Nat}{F:FT}(h:disp g=some F)(d:Nat)(args:List EV)(hp:Aa):
 Ad T disp K (d+1) false g args hp=F (Ad T disp K d false) (Ad T disp K d true) K args hp:=by
 have e:Ad T disp K (d+1) false g args hp = @Option.rec FT (fun _=>FnT) (Adq T (Ad T disp K d false) (Ad T disp K d true) K g) (fun F=>F (Ad T disp K d false) (Ad T disp K d true) K) (disp g) args hp:=rfl
 rw[e,h]
theorem W8(disp:Nat->Option FT)(d l:Nat)(args:List EV)(hp:Aa):
 Ad T disp K (d+1) true l args hp=Afl T (Ad T disp K d false) (Ad T disp K d true) K l args hp:=rfl
theorem Ak2 {n:Nat}{c:CF}{args:List EV}(hn:args.length<=n)(h:Aa):Atp n c args h=c (setArgs args 0 .nil) h []:=by
 unfold Atp
 rw[Dx,Nat.ble_eq_true_of_le hn,Ak,Ac3]
variable {g n i t:Nat}{out:Nat->CF}{env:Env}{ret k:CF}{tm:Ag}{h:Aa}{ds:List Nat}
end
end Go.Ev

namespace Go.Ev
set_option maxRecDepth 100000
noncomputable section
def Bu(c a b:EV)(k:EV->R):R:=onB (k a) (k b) c
def Oc(f:EV->EV->Option EV)(a b:EV)(k:EV->R):R:=oB k (f a b)
def Lf(v:EV)(k:EV->R):R:=onB (k (.bool false)) (k (.bool true)) v
def Ara(v:EV)(k:EV->R):R:=match v with | .int c n=>k (.int c (Dk c (Int.sub 0 n)))|_=>none
def Bg(v:EV)(k:EV->R):R:=Ke (fun i o=>k (.ptr i o)) v
def Ap(c:Nat)(v:EV)(k:EV->R):R:=Ke (fun i o=>k (.ptr i (Nat.add o c))) v
def Aa7(len s:Nat)(v ix:EV)(k:EV->R):R:=Avl (fun j=>Ke (fun i off=>Ar (Nat.ble (Nat.succ j) len) (k (.ptr i (Nat.add off (Nat.mul j s)))) none) v) ix
def Ari(len s:Nat)(agg:Bool)(n:Nat)(v ix:EV)(k:EV->R):R:=Avl (fun j=>Ar4 (fun cs=>Ar (Nat.ble (Nat.succ j) len) (Aov agg n cs (Nat.mul j s) k) none) v) ix
def Afu(off:Nat)(agg:Bool)(n:Nat)(v:EV)(k:EV->R):R:=Ar4 (fun cs=>Aov agg n cs off k) v
def Qx(c:IntKind)(v:EV)(k:EV->R):R:=A3o (fun _ n=>k (.int c (Dk c n))) v
def C9(ix:Nat)(v:EV)(k:EV->R):R:=A3m (fun l=>oB k (Ai2 l ix)) v
def Kn(o:Cu)(h:Aa)(k:EV->Aa->R):R:=k (.ptr h.next 0) (h.new o)
def Dn(t:TypeId)(v:EV)(h:Aa)(k:EV->Aa->R):R:=Ar v.plain (k (.ptr h.next 0) (h.new (.cells v.cells t))) none
def H8(v:EV)(k:EV->R):R:=oB (fun n=>k (.int .i64 (.ofNat n))) (lenOf v)
def Aj(x:R)(k:EV->Aa->R):R:=oB (Agn k) x
def P0(c r:Ac)(f:EV)(args:List EV)(h:Aa):R:=match f with
 | .func g a cs=>c g (At9 a (At9 args cs)) h
 | .Rm l=>r l args h
 | _=>none
def C1(place:Nat->Option (Nat × Nat))(z:List EV)(ps:List (Nat × EV))(k:EV->R):R:=oB (fun c=>k (.agg c)) (Ww place ps z)
def Agy(n:Nat)(v:EV)(k:EV->R):R:=match v with | .slice i off len _ _=>Ar (Nat.ble n len) (k (.ptr i off)) none|_=>none
def Arj(s:Nat)(v:EV)(lo hi mx:Option EV)(k:EV->R):R:=oB k (slc v s lo hi mx)
def Acs(n s:Nat)(v:EV)(lo hi mx:Option EV)(k:EV->R):R:=Ke (fun i off=>oB k (slc (.slice i off n n false) s lo hi mx)) v
def O4(z:List EV)(e:TypeId)(l c:EV)(h:Aa):R:=Zc z e (fun _=>l) (fun _=>c) .nil h
def B3(z:List EV)(e:TypeId)(s n:Nat)(ps:List (Nat × EV))(h:Aa):R:=Sg z e s n (fun _=>ps) .nil h
def Ain(h:Aa):R:=some (.map h.next,h.new (.map []))
def Adx(s:EV)(h:Aa):R:=Ad5 (fun _=>s) .nil h
def Ag3(T:D7)(kt e:TypeId)(ok:Bool)(m ix:EV)(h:Aa):R:=Ak4 T kt e ok (fun _=>m) (fun _=>ix) .nil h
def V3(T:D7)(kt:TypeId)(m ix x:EV)(h:Aa):R:=Aaf T kt (fun _=>m) (fun _=>ix) (fun _=>x) .nil h
def Ami(c x:EV)(h:Aa):R:=Aoi (fun _=>c) (fun _=>x) .nil h
def Ali(z:EV)(c:EV)(h:Aa):R:=Aoh z (fun _=>c) .nil h
def Aq5(c:EV)(h:Aa):R:=Apt (fun _=>c) .nil h
def D8(v:EV)(x y:R):R:=onB x y v
inductive RV where
 | v (x:EV)
 | c (a:EV) (t:TypeId)
def Ag9(tm:Ag):ResultVar->RV
 | .tmp t=>.v (tmp tm t)
 | .cell a t=>.c (tmp tm a) t
def Ale(T:D7)(h:Aa):List RV->Option (List EV)
 | []=>some []
 | .v x::r=>match Ale T h r with|some l=>some (x::l)|none=>none
 | .c a t::r=>match a,Ale T h r,T.size t with
  | .ptr i off,some l,some n=>match Fl h i off n with
   | some cs=>match T.agg t with
    | some true=>some (.agg cs::l)
    | some false=>(match cs with | [v]=>some (v::l)|_=>none)
    | none=>none
   | none=>none
  | _,_,_=>none
def Iz(T:D7)(l:List RV)(h:Aa):R:=match Ale T h l with|some [v]=>some (v,h)|some l=>some (.tuple l,h)|none=>none
def Aip(l:Nat)(v:Bool)(st:LoopState)(jump:Option Code)(h:Aa):R:=A9 l v st jump .nil h []
def Fm(l:Nat)(h:Aa)(k:Aa->R):R:=match h.get l with
 | some (.loop .ready p f n' tm' ps asg body d)=>k (h.put l (.loop .busy p f n' tm' ps asg body d))
 | _=>none
def A46(l:Nat)(r:R)(k:Aa->R)(ex:Nat->Aa->R)(ret:Aa->R):R:=match r with
 | none=>none
 | some (_,h)=>match h.get l with
  | some (.loop st p f n' tm' ps asg body d)=>match st with
   | .busy=>none
   | _=>match p with
    | none=>k (h.put l (.loop .exhausted p f n' tm' ps asg body d))
    | some (.exit id)=>ex id (h.put l (.loop .exhausted p f n' tm' ps asg body d))
    | some .ret=>ret (h.put l (.loop .exhausted p f n' tm' ps asg body d))
    | some _=>none
  | _=>none
def Xj(c:Ac)(T:D7)(g n i:Nat)(f:EV)(tm:Ag)(h:Aa)(ds:List Nat)(k:Aa->List Nat->R)(ex:Nat->Aa->List Nat->R)(ret:Aa->List Nat->R):R:=match f with
 | .func q first captured=>A46 (Nat.succ h.next) (c q (first++(.Rm (Nat.succ h.next)::captured)) ((h.new (.deferred true)).new (.loop .ready none g n tm (B8 T g i).2.1 (B8 T g i).2.2.1 (B8 T g i).2.2.2 h.next)))
  (fun h'=>k h' (h.next::ds)) (fun id h'=>ex id h' (h.next::ds)) (fun h'=>ret h' (h.next::ds))
 | _=>none
def Ak9(c:Ac)(T:D7)(g n i l0:Nat)(f:EV)(tm:Ag)(h:Aa)(ds:List Nat)(k:Aa->List Nat->R)(ex:Nat->Aa->List Nat->R)(ret:Aa->List Nat->R):R:=match f with
 | .func q first captured=>match h.get l0 with
  | some (.loop _ _ _ _ _ _ _ _ d)=>A46 h.next (c q (first++(.Rm h.next::captured)) (h.new (.loop .ready none g n tm (B8 T g i).2.1 (B8 T g i).2.2.1 (B8 T g i).2.2.2 d)))
   (fun h'=>k h' ds) (fun id h'=>ex id h' ds) (fun h'=>ret h' ds)
  | _=>none
 | _=>none
def Gs(h:Aa)(k:Nat->DX->R):R:=k h.next ⟨0,[],[],[],[]⟩
def Bn(i b base:Nat)(x:EV)(s:DX)(k:DX->R):R:=Ke (fun q _=>Ar (Ab0 b base q s) (k (s.ld i q)) none) x
def Adm(i:Nat)(h:Aa)(s:DX)(k:DX->R):R:=k (s.new i h.next)
def Ahp(i b:Nat)(x:EV)(s:DX)(k:DX->R):R:=Ke (fun q _=>Ar (Ajo b q s) (k (s.Yr i q)) none) x
def A7w(h:Aa)(k:Aa->R):R:=k ⟨.nil,h.next,h.next⟩
def Ct(i b:Nat)(s:DX)(h:Aa)(call:Aa->R)(k:EV->Aa->DX->R):R:=Ar (Q5 b s) (Aj (call (Et b s h)) fun v h'=>Hm i b s h h' fun s h=>k v h s) none
end
section
variable {e a b x y ix lo':EF}{k:KF}{c1 c2:CF}{tm:Ag}{h:Aa}{ds:List Nat}{T:D7}{call round:Ac}
theorem Amm(place:Nat->Option (Nat × Nat))(z:List EV)(ps:Ag->List (Nat × EV)):Xh (Al7 place z ps) k tm h ds=C1 place z (ps tm) (fun v=>k v tm h ds):=by
 unfold Xh Al7 C1
 cases Ww place (ps tm) z <;> rfl
theorem A3c:Xh (A0h e) k tm h ds=Ara (e tm) (fun v=>k v tm h ds):=by
 unfold Xh A0h Ara
 cases e tm <;> rfl
theorem Awh(n:Nat):Xh (Asg n e) k tm h ds=Agy n (e tm) (fun v=>k v tm h ds):=by
 unfold Xh Asg Agy
 cases e tm <;> try rfl
 rename_i i off len a b
 simp only
 cases Nat.ble n len <;> rfl
theorem Axn(n s:Nat)(lo hi mx:Ag->Option EV):Xh (Agr n s e lo hi mx) k tm h ds=Acs n s (e tm) (lo tm) (hi tm) (mx tm) (fun v=>k v tm h ds):=by
 unfold Xh Agr Acs Ke
 cases e tm <;> rfl
theorem Aml(xs:Ag->List EV):Afn call round e xs k tm h ds=Aj (P0 call round (e tm) (xs tm) h) (fun v h=>k v tm h ds):=by
 unfold Afn P0 Aj
 cases e tm <;> rfl
theorem A1l(res:List ResultVar):Aiv T res tm h=Iz T (res.map (Ag9 tm)) h:=by
 have hv:∀ l:List ResultVar,Hn T tm h l=Ale T h (l.map (Ag9 tm)):=by
  intro l
  induction l with
  | nil=>rfl
  | cons a r ih=>
   cases a with
   | tmp t=>simp only[Hn,List.map_cons,Ag9,Ale,ih];rfl
   | cell a t=>
    simp only[Hn,List.map_cons,Ag9,Ale,ih]
    cases tmp tm a <;> rfl
 rw[Axo]
 unfold A0g Iz
 rw[hv]
 rfl
theorem A55(res:List ResultVar):Aha T res tm h ds=D3 ds h (fun h=>Iz T (res.map (Ag9 tm)) h):=by
 have:Aiv T res tm=fun h=>Iz T (res.map (Ag9 tm)) h:=funext fun h=>A1l res
 show D3 ds h (Aiv T res tm)=_
 rw[this]
theorem A3n {l:Nat}:O3 l c1 tm h ds=Fm l h (fun h=>c1 tm h ds):=by
 unfold O3 Fm
 cases h.get l with
 | none=>rfl
 | some o=>
  cases o <;> try rfl
theorem Aur {l:Nat}{v:Bool}{st:LoopState}{j:Option Code}:A9 l v st j tm h ds=Aip l v st j h:=by
 unfold Aip A9
 rfl
theorem Agt {g n i:Nat}{out:Nat->CF}{env:Env}{ret kk:CF}{o:Operand}(ho:(B8 T g i).1=o):Abw T call g n none i out env ret kk tm h ds =
 match Bk tm o with
 | some f=>Xj call T g n i f tm h ds (fun h ds=>kk tm h ds) (fun id h ds=>Ank out env id tm h ds) (fun h ds=>ret tm h ds)
 | none=>none:=by
 subst ho
 unfold Abw Aiy
 cases Bk tm (B8 T g i).1 with
 | none=>rfl
 | some f=>
  cases f <;> rfl
theorem Ady {g n i l0:Nat}{out:Nat->CF}{env:Env}{ret kk:CF}{o:Operand}(ho:(B8 T g i).1=o):Abw T call g n (some l0) i out env ret kk tm h ds =
 match Bk tm o with
 | some f=>Ak9 call T g n i l0 f tm h ds (fun h ds=>kk tm h ds) (fun id h ds=>Ank out env id tm h ds) (fun h ds=>ret tm h ds)
 | none=>none:=by
 subst ho
 unfold Abw Aiy
 cases Bk tm (B8 T g i).1 with
 | none=>rfl
 | some f=>
  cases f <;> rfl
theorem Zi(t:Nat):Bk tm (.tmp t)=some (tmp tm t):=rfl
theorem Y1(f:Nat):Bk tm (.func f)=some (.func f [] []):=rfl
theorem Agp(out:Nat->CF)(id:Nat):Ank out [] id=out id:=rfl
theorem Zt {K l:Nat}{args:List EV}{st:LoopState}{p:Option Code}{f n:Nat}{tm tm':Ag}{ps:List Tmp}{asg body:Code}{d:Nat}(hg:h.get l=some (.loop st p f n tm ps asg body d))(hs:Kh ps args n tm=some tm'):
 Afl T call round K l args h=Lj T call round K f n (some l) (fun id=>A9 l false .done (some (.exit id))) (A9 l false .done (some .ret)) asg []
  (O3 l (Lj T call round K f n (some l) (fun id=>A9 l false .done (some (.exit id))) (A9 l false .done (some .ret)) body [] (A9 l true .ready none))) tm' h []:=by
 unfold Afl
 rw[hg]
 simp only
 rw[hs]
theorem lq {m n d:Nat}(h:n<=d)(e:Nat.ble m n=true):m<=d:=Nat.le_trans (Nat.le_of_ble_eq_true e) h
end
theorem dd:
 (∀ (e:EF) (p:PF) (c:CF) (tm:Ag) (h:Aa) (ds:List Nat),mv e p c tm h ds=c (p (some (e tm)) tm) h ds) /\
 (∀ (e:EF) (k:KF) (tm:Ag) (h:Aa) (ds:List Nat),A2g e k tm h ds=k (e tm) tm h ds) /\
 (∀ (p:PF) (c:CF) (v:EV) (tm:Ag) (h:Aa) (ds:List Nat),put p c v tm h ds=c (p (some v) tm) h ds) /\
 (∀ (c:CF) (v:EV) (tm:Ag) (h:Aa) (ds:List Nat),Ae4 c v tm h ds=c tm h ds) /\
 (∀ (v:EV) (tm:Ag),Kb v tm=v) /\
 (∀ (c a b:EF) (k:KF) (tm:Ag) (h:Aa) (ds:List Nat),Ati c a b k tm h ds=Bu (c tm) (a tm) (b tm) (fun v=>k v tm h ds)) /\
 (∀ (g:IG) (f:EV->EV->Option EV) (a b:EF) (k:KF) (tm:Ag) (h:Aa) (ds:List Nat),Aro g f a b k tm h ds=Aq g f (a tm) (b tm) (fun v=>k v tm h ds)) /\
 (∀ (f:EV->EV->Option EV) (a b:EF) (k:KF) (tm:Ag) (h:Aa) (ds:List Nat),A68 f a b k tm h ds=Oc f (a tm) (b tm) (fun v=>k v tm h ds)) /\
 (∀ (e:EF) (k:KF) (tm:Ag) (h:Aa) (ds:List Nat),Ayp e k tm h ds=Lf (e tm) (fun v=>k v tm h ds)) /\
 (∀ (e:EF) (k:KF) (tm:Ag) (h:Aa) (ds:List Nat),A6a e k tm h ds=Bg (e tm) (fun v=>k v tm h ds)) /\
 (∀ (c:Nat) (e:EF) (k:KF) (tm:Ag) (h:Aa) (ds:List Nat),Anx c e k tm h ds=Ap c (e tm) (fun v=>k v tm h ds)) /\
 (∀ (len s:Nat) (e ix:EF) (k:KF) (tm:Ag) (h:Aa) (ds:List Nat),A11 len s e ix k tm h ds=Aa7 len s (e tm) (ix tm) (fun v=>k v tm h ds)) /\
 (∀ (s:Nat) (e ix:EF) (k:KF) (tm:Ag) (h:Aa) (ds:List Nat),Aln s e ix k tm h ds=Ib s (e tm) (ix tm) (fun v=>k v tm h ds)) /\
 (∀ (len s:Nat) (agg:Bool) (n:Nat) (e ix:EF) (k:KF) (tm:Ag) (h:Aa) (ds:List Nat),A24 len s agg n e ix k tm h ds=Ari len s agg n (e tm) (ix tm) (fun v=>k v tm h ds)) /\
 (∀ (off:Nat) (agg:Bool) (n:Nat) (e:EF) (k:KF) (tm:Ag) (h:Aa) (ds:List Nat),Ave off agg n e k tm h ds=Afu off agg n (e tm) (fun v=>k v tm h ds)) /\
 (∀ (c:IntKind) (e:EF) (k:KF) (tm:Ag) (h:Aa) (ds:List Nat),A5r c e k tm h ds=Qx c (e tm) (fun v=>k v tm h ds)) /\
 (∀ (ix:Nat) (e:EF) (k:KF) (tm:Ag) (h:Aa) (ds:List Nat),A5y ix e k tm h ds=C9 ix (e tm) (fun v=>k v tm h ds)) /\
 (∀ (e:EF) (k:KF) (tm:Ag) (h:Aa) (ds:List Nat),Lw e k tm h ds=Ao (e tm) h (fun v=>k v tm h ds)) /\
 (∀ (n:Nat) (e:EF) (k:KF) (tm:Ag) (h:Aa) (ds:List Nat),Aqw n e k tm h ds=Ck n (e tm) h (fun v=>k v tm h ds)) /\
 (∀ (n:Nat) (a x:EF) (k:KF) (tm:Ag) (h:Aa) (ds:List Nat),Ve n a x k tm h ds=I9 n (a tm) (x tm) h (fun h=>k (.tuple []) tm h ds)) /\
 (∀ (z:List EV) (t:TypeId) (k:KF) (tm:Ag) (h:Aa) (ds:List Nat),Afc z t k tm h ds=Kn (.cells z t) h (fun v h=>k v tm h ds)) /\
 (∀ (t:TypeId) (e:EF) (k:KF) (tm:Ag) (h:Aa) (ds:List Nat),Azx t e k tm h ds=Dn t (e tm) h (fun v h=>k v tm h ds)) /\
 (∀ (e:EF) (k:KF) (tm:Ag) (h:Aa) (ds:List Nat),A6q e k tm h ds=H8 (e tm) (fun v=>k v tm h ds)) /\
 (∀ (call:Ac) (g:Nat) (xs:Ag->List EV) (k:KF) (tm:Ag) (h:Aa) (ds:List Nat),Ah5 call g xs k tm h ds=Aj (call g (xs tm) h) (fun v h=>k v tm h ds)) /\
 (∀ (call round:Ac) (e:EF) (xs:Ag->List EV) (k:KF) (tm:Ag) (h:Aa) (ds:List Nat),Afn call round e xs k tm h ds=Aj (P0 call round (e tm) (xs tm) h) (fun v h=>k v tm h ds)) /\
 (∀ (e:TypeId) (size:Nat) (s x:EF) (k:KF) (tm:Ag) (h:Aa) (ds:List Nat),Km (Aw1 e size s x) k tm h ds=Aj (Da e size (s tm) (x tm) h) (fun v h=>k v tm h ds)) /\
 (∀ (T:D7) (b:Builtin) (ts:Array TypeId) (xs:Ag->List EV) (k:KF) (tm:Ag) (h:Aa) (ds:List Nat),Km (Ahx T b ts xs) k tm h ds=Aj (builtin T b ts (xs tm) h) (fun v h=>k v tm h ds)) /\
 (∀ (z:List EV) (t:TypeId) (l c:EF) (k:KF) (tm:Ag) (h:Aa) (ds:List Nat),Km (Zc z t l c) k tm h ds=Aj (O4 z t (l tm) (c tm) h) (fun v h=>k v tm h ds)) /\
 (∀ (z:List EV) (t:TypeId) (s n:Nat) (ps:Ag->List (Nat × EV)) (k:KF) (tm:Ag) (h:Aa) (ds:List Nat),Km (Sg z t s n ps) k tm h ds=Aj (B3 z t s n (ps tm) h) (fun v h=>k v tm h ds)) /\
 (∀ (k:KF) (tm:Ag) (h:Aa) (ds:List Nat),Km Al2 k tm h ds=Aj (Ain h) (fun v h=>k v tm h ds)) /\
 (∀ (s:EF) (k:KF) (tm:Ag) (h:Aa) (ds:List Nat),Km (Ad5 s) k tm h ds=Aj (Adx (s tm) h) (fun v h=>k v tm h ds)) /\
 (∀ (T:D7) (kt t:TypeId) (ok:Bool) (m ix:EF) (k:KF) (tm:Ag) (h:Aa) (ds:List Nat),Km (Ak4 T kt t ok m ix) k tm h ds=Aj (Ag3 T kt t ok (m tm) (ix tm) h) (fun v h=>k v tm h ds)) /\
 (∀ (T:D7) (kt:TypeId) (m ix x:EF) (k:KF) (tm:Ag) (h:Aa) (ds:List Nat),Km (Aaf T kt m ix x) k tm h ds=Aj (V3 T kt (m tm) (ix tm) (x tm) h) (fun v h=>k v tm h ds)) /\
 (∀ (c x:EF) (k:KF) (tm:Ag) (h:Aa) (ds:List Nat),Km (Aoi c x) k tm h ds=Aj (Ami (c tm) (x tm) h) (fun v h=>k v tm h ds)) /\
 (∀ (z:EV) (c:EF) (k:KF) (tm:Ag) (h:Aa) (ds:List Nat),Km (Aoh z c) k tm h ds=Aj (Ali z (c tm) h) (fun v h=>k v tm h ds)) /\
 (∀ (c:EF) (k:KF) (tm:Ag) (h:Aa) (ds:List Nat),Km (Apt c) k tm h ds=Aj (Aq5 (c tm) h) (fun v h=>k v tm h ds)) /\
 (∀ (place:Nat->Option (Nat × Nat)) (z:List EV) (ps:Ag->List (Nat × EV)) (k:KF) (tm:Ag) (h:Aa) (ds:List Nat),Xh (Al7 place z ps) k tm h ds=C1 place z (ps tm) (fun v=>k v tm h ds)) /\
 (∀ (f:Nat) (xs cs:Ag->List EV) (k:KF) (tm:Ag) (h:Aa) (ds:List Nat),Xh (Aon f xs cs) k tm h ds=k (.func f (xs tm) (cs tm)) tm h ds) /\
 (∀ (e:EF) (k:KF) (tm:Ag) (h:Aa) (ds:List Nat),Xh (A0h e) k tm h ds=Ara (e tm) (fun v=>k v tm h ds)) /\
 (∀ (n:Nat) (e:EF) (k:KF) (tm:Ag) (h:Aa) (ds:List Nat),Xh (Asg n e) k tm h ds=Agy n (e tm) (fun v=>k v tm h ds)) /\
 (∀ (n s:Nat) (e:EF) (lo hi mx:Ag->Option EV) (k:KF) (tm:Ag) (h:Aa) (ds:List Nat),Xh (Agr n s e lo hi mx) k tm h ds=Acs n s (e tm) (lo tm) (hi tm) (mx tm) (fun v=>k v tm h ds)) /\
 (∀ (s:Nat) (e:EF) (lo hi mx:Ag->Option EV) (k:KF) (tm:Ag) (h:Aa) (ds:List Nat),Xh (A7y s e lo hi mx) k tm h ds=Arj s (e tm) (lo tm) (hi tm) (mx tm) (fun v=>k v tm h ds)) /\
 (∀ (w:Ag->Bool) (yes:CF) (no:KF) (tm:Ag) (h:Aa) (ds:List Nat),Acl w yes no tm h ds=Ar (w tm) (yes tm h ds) (no (.tuple []) tm h ds)) /\
 (∀ (w:Ag->Bool) (yes no:CF) (tm:Ag) (h:Aa) (ds:List Nat),Ap5 w yes no tm h ds=Ar (w tm) (yes tm h ds) (no tm h ds)) /\
 (∀ (e:EF) (a b:CF) (tm:Ag) (h:Aa) (ds:List Nat),Ae9 e a b tm h ds=D8 (e tm) (a tm h ds) (b tm h ds)) /\
 (∀ (tm:Ag) (h:Aa) (ds:List Nat),C0 tm h ds=none) /\
 (∀ (tm:Ag) (h:Aa) (ds:List Nat),A7x tm h ds=D3 ds h fun h=>some (.tuple [],h)) /\
 (∀ (p:EF) (tm:Ag) (h:Aa) (ds:List Nat),Bau p tm h ds=D3 ds h fun h=>some (p tm,h)) /\
 (∀ (p q:EF) (tm:Ag) (h:Aa) (ds:List Nat),Bak p q tm h ds=D3 ds h fun h=>some (.tuple [p tm,q tm],h)) /\
 (∀ (T:D7) (res:List ResultVar) (tm:Ag) (h:Aa) (ds:List Nat),Aha T res tm h ds=D3 ds h (fun h=>Iz T (res.map (Ag9 tm)) h)) /\
 (∀ (h:Aa) (k:Aa->R),D3 [] h k=k h) /\
 (∀ (l:Nat) (c:CF) (tm:Ag) (h:Aa) (ds:List Nat),O3 l c tm h ds=Fm l h (fun h=>c tm h ds)) /\
 (∀ (l:Nat) (v:Bool) (st:LoopState) (j:Option Code) (tm:Ag) (h:Aa) (ds:List Nat),A9 l v st j tm h ds=Aip l v st j h) /\
 (∀ (k:Nat->DX->CF) (tm:Ag) (h:Aa) (ds:List Nat),A5o k tm h ds=Gs h (fun base s=>k base s tm h ds)) /\
 (∀ (i b base:Nat) (e:EF) (s:DX) (k:DX->CF) (tm:Ag) (h:Aa) (ds:List Nat),A5x i b base e s k tm h ds=Bn i b base (e tm) s (fun s=>k s tm h ds)) /\
 (∀ (i:Nat) (s:DX) (k:DX->CF) (tm:Ag) (h:Aa) (ds:List Nat),A9h i s k tm h ds=Adm i h s (fun s=>k s tm h ds)) /\
 (∀ (i b:Nat) (e:EF) (s:DX) (k:DX->CF) (tm:Ag) (h:Aa) (ds:List Nat),A9o i b e s k tm h ds=Ahp i b (e tm) s (fun s=>k s tm h ds)) /\
 (∀ (o:OC) (k:KF) (tm:Ag) (h:Aa) (ds:List Nat),A9q o k tm h ds=o (fun v tm _ ds=>k v tm h ds) tm ⟨.nil,h.next,h.next⟩ ds) /\
 (∀ (i b:Nat) (s:DX) (o:OC) (k:DX->KF) (tm:Ag) (h:Aa) (ds:List Nat),A9e i b s o k tm h ds=Ar (Q5 b s) (o (fun v tm h' ds=>Hm i b s h h' (fun s h=>k s v tm h ds)) tm (Et b s h) ds) none) /\
 (∀ (h:Aa) (k:Aa->R),A7w h k=k ⟨.nil,h.next,h.next⟩) /\
 (∀ (i b:Nat) (s:DX) (h:Aa) (call:Aa->R) (k:EV->Aa->DX->R),Ct i b s h call k=Ar (Q5 b s) (Aj (call (Et b s h)) fun v h'=>Hm i b s h h' fun s h=>k v h s) none) /\
 (∀ (tm:Ag) (t:Nat),Ag9 tm (.tmp t)=.v (tmp tm t))/\(∀ (tm:Ag) (a t:Nat),Ag9 tm (.cell a t)=.c (tmp tm a) t) /\
 (∀ (tm:Ag) (j i:Nat) (v:EV),tmp (tm.put j (some v)) i=if j=i then v else tmp tm i) /\
 (∀ (t:Nat),tmp .nil t=.tuple []) /\
 (∀ (a:EV) (l:List EV) (i:Nat) (t:Tr EV),setArgs (a::l) i t=setArgs l (i+1) (t.put i (some a)))/\(∀ (b:Bool) (f g:CF) (tm:Ag) (h:Aa) (ds:List Nat),Ar b f g tm h ds=Ar b (f tm h ds) (g tm h ds))/\(∀ (i:Nat) (t:Tr EV),setArgs [] i t=t) /\
 (∀ (tm:Ag) (a:ResultVar) (l:List ResultVar),List.map (Ag9 tm) (a::l)=Ag9 tm a::List.map (Ag9 tm) l)/\(∀ (tm:Ag),List.map (Ag9 tm) [] = []):=
 ⟨fun _ _ _ _ _ _=>rfl,fun _ _ _ _ _=>rfl,fun _ _ _ _ _ _=>rfl,fun _ _ _ _ _=>rfl,fun _ _=>rfl,fun _ _ _ _ _ _ _=>rfl,fun _ _ _ _ _ _ _ _=>rfl,fun _ _ _ _ _ _ _=>rfl,
  fun _ _ _ _ _=>rfl,fun _ _ _ _ _=>rfl,fun _ _ _ _ _ _=>rfl,fun _ _ _ _ _ _ _ _=>rfl,fun _ _ _ _ _ _ _=>Ao6,fun _ _ _ _ _ _ _ _ _ _=>rfl,fun _ _ _ _ _ _ _ _=>rfl,fun _ _ _ _ _ _=>rfl,fun _ _ _ _ _ _=>rfl,
  fun _ _ _ _ _=>Ao3,fun _ _ _ _ _ _=>Aow,fun _ _ _ _ _ _ _=>rfl,fun _ _ _ _ _ _=>rfl,fun _ _ _ _ _ _=>rfl,fun _ _ _ _ _=>rfl,fun _ _ _ _ _ _ _=>rfl,fun _ _ _ _ _ _ _ _=>Aml _,
  fun _ _ _ _ _ _ _ _=>rfl,fun _ _ _ _ _ _ _ _=>rfl,fun _ _ _ _ _ _ _ _=>rfl,fun _ _ _ _ _ _ _ _ _=>rfl,fun _ _ _ _=>rfl,fun _ _ _ _ _=>rfl,fun _ _ _ _ _ _ _ _ _ _=>rfl,fun _ _ _ _ _ _ _ _ _=>rfl,
  fun _ _ _ _ _ _=>rfl,fun _ _ _ _ _ _=>rfl,fun _ _ _ _ _=>rfl,fun _ _ _ _ _ _ _=>Amm _ _ _,fun _ _ _ _ _ _ _=>rfl,fun _ _ _ _ _=>A3c,fun _ _ _ _ _ _=>Awh _,fun _ _ _ _ _ _ _ _ _ _=>Axn _ _ _ _ _,fun _ _ _ _ _ _ _ _ _=>rfl,
  fun _ _ _ _ _ _=>rfl,fun _ _ _ _ _ _=>rfl,fun _ _ _ _ _ _=>rfl,fun _ _ _=>rfl,fun _ _ _=>rfl,fun _ _ _ _=>rfl,fun _ _ _ _ _=>rfl,fun _ _ _ _ _=>A55 _,fun _ _=>rfl,fun _ _ _ _ _=>A3n,fun _ _ _ _ _ _ _=>Aur,
  fun _ _ _ _=>rfl,fun _ _ _ _ _ _ _ _ _=>rfl,fun _ _ _ _ _ _=>rfl,fun _ _ _ _ _ _ _ _=>rfl,fun _ _ _ _ _=>rfl,fun _ _ _ _ _ _ _ _=>rfl,fun _ _=>rfl,fun _ _ _ _ _ _=>rfl,
  fun _ _=>rfl,fun _ _ _=>rfl,Jd,fun _=>rfl,fun _ _ _ _=>rfl,fun b _ _ _ _ _=>(by cases b <;> rfl),fun _ _=>rfl,fun _ _ _=>rfl,fun _=>rfl⟩
end Go.Ev

namespace Go.Ev
noncomputable section
abbrev VS:=Nat->EV
abbrev CD:=VS->Aa->R
abbrev Az0(ρ:VS)(d:Nat)(v:EV):VS:=fun i=>Ar (Nat.beq d i) v (ρ i)
abbrev C7(ρ:VS)(x:Operand):Option EV:=match x with
 | .tmp t=>some (ρ t)
 | .const v=>ofV v
 | .global _=>none
 | .func f=>some (.func f [] [])
abbrev Afe(ρ:VS)(l:List Operand):Option (List EV):=@List.rec Operand (fun _=>Option (List EV)) (some []) (fun x _ ih=>match C7 ρ x,ih with|some e,some es=>some (e::es)|_,_=>none) l
abbrev Ak5(ρ:VS)(l:List (Nat × Operand)):Option (List (Nat × EV)):=@List.rec (Nat × Operand) (fun _=>Option (List (Nat × EV))) (some []) (fun x _ ih=>match C7 ρ x.2,ih with|some e,some es=>some ((x.1,e)::es)|_,_=>none) l
abbrev Aqr(ρ:VS)(x:Option Operand):Option (Option EV):=match x with
 | none=>some none
 | some x=>(match C7 ρ x with|some e=>some (some e)|none=>none)
abbrev Tc(T:D7)(call callV round:Ac)(op:Op)(ρ:VS)(h:Aa)(k:EV->Aa->R):R:=
 match op with
 | .move x=>(match C7 ρ x with|some e=>k e h|none=>none)
 | .assign x=>(match C7 ρ x with|some e=>k e h|none=>none)
 | .pick c a b=>(match C7 ρ c,C7 ρ a,C7 ρ b with|some c,some a,some b=>Bu c a b fun v=>k v h|_,_,_=>none)
 | .binOp op t x y _=>(match C7 ρ x,C7 ρ y with
  | some a,some b=>(match A28 op with|some g=>Aq g (bin T op t) a b fun v=>k v h|none=>Oc (bin T op t) a b fun v=>k v h)
  | _,_=>none)
 | .unOp .not _ x=>(match C7 ρ x with|some e=>Lf e fun v=>k v h|none=>none)
 | .nilCheck x=>(match C7 ρ x with|some e=>Bg e fun v=>k v h|none=>none)
 | .fieldAddr s x f=>(match C7 ρ x,T.Hs s with
  | some e,some (.struct fields)=>(match Ajb fields.toList f with
   | some fd=>(match T.size fd.type with|some n=>Ar (Nat.beq n 0) none (Ap fd.offset e fun v=>k v h)|none=>none)
   | none=>none)
  | _,_=>none)
 | .indexAddr t x ix=>(match C7 ρ x,C7 ρ ix,T.Hs t with
  | some e,some ix,some (.array len et)=>(match T.size et with|some s=>Aa7 len s e ix fun v=>k v h|none=>none)
  | some e,some ix,some (.slice et)=>(match T.size et with|some s=>Ib s e ix fun v=>k v h|none=>none)
  | _,_,_=>none)
 | .index t x ix=>(match C7 ρ x,C7 ρ ix,T.Hs t with
  | some e,some ix',some (.array len et)=>(match T.size et,T.agg et with|some s,some agg=>Ari len s agg s e ix' fun v=>k v h|_,_=>none)
  | _,_,_=>none)
 | .field t x f=>(match C7 ρ x,T.Hs t with
  | some e,some (.struct fields)=>(match Ajb fields.toList f with
   | some fd=>(match T.agg fd.type with
    | some true=>(match T.size fd.type with|some n=>Afu fd.offset true n e fun v=>k v h|none=>none)
    | some false=>Afu fd.offset false 0 e fun v=>k v h
    | none=>none)
   | none=>none)
  | _,_=>none)
 | .convert src dst x=>(match C7 ρ x,T.Hs src,T.Hs dst with|some e,some _,some (.int c)=>Qx c e fun v=>k v h|_,_,_=>none)
 | .extract x ix=>(match C7 ρ x with|some e=>C9 ix e fun v=>k v h|none=>none)
 | .load t x=>(match C7 ρ x,T.agg t with
  | some e,some true=>(match T.size t with|some n=>Ck n e h fun v=>k v h|none=>none)
  | some e,some false=>Ao e h fun v=>k v h
  | _,_=>none)
 | .store t a x=>(match C7 ρ a,C7 ρ x,T.size t with|some a,some x,some n=>I9 n a x h fun h=>k (.tuple []) h|_,_,_=>none)
 | .alloc t=>(match T.zero t with|some z=>Kn (.cells z t) h k|none=>none)
 | .box t x=>(match C7 ρ x with|some e=>Dn t e h k|none=>none)
 | .call { callee:=.value (.func g),args,.. }=>(match Afe ρ args.toList with|some xs=>Aj (call g xs h) k|none=>none)
 | .call { callee:=.value f,args,.. }=>(match C7 ρ f,Afe ρ args.toList with|some e,some xs=>Aj (P0 callV round e xs h) k|_,_=>none)
 | .call { callee:=.builtin .append,args,argTypes }=>(match args.toList,argTypes.toList with
  | [s,x],[t,u]=>(match C7 ρ s,C7 ρ x,T.Hs u,T.Hs t with
   | some a,some b,some (.slice _),some (.slice e)=>(match T.size e,T.zero e with
    | some size,some _=>Aj (Da e size a b h) k
    | _,_=>none)
   | _,_,_,_=>none)
  | _,_=>none)
 | .call { callee:=.builtin .len,args,argTypes }=>(match args.toList,argTypes.toList with
  | [x],[t]=>(match C7 ρ x,T.Hs t with
   | some e,some (.slice _)=>H8 e fun v=>k v h
   | some e,some (.chan ..)=>Aj (Aq5 e h) k
   | some e,_=>Aj (builtin T .len argTypes [e] h) k
   | _,_=>none)
  | _,_=>none)
 | .call { callee:=.builtin b,args,argTypes }=>(match Afe ρ args.toList with|some xs=>Aj (builtin T b argTypes xs h) k|none=>none)
 | .unOp .neg _ x=>(match C7 ρ x with|some e=>Ara e fun v=>k v h|none=>none)
 | .build t ps=>(match T.zero t,Ak5 ρ ps.toList,T.Hs t with
  | some z,some l,some (.struct fields)=>(match placesOf T fields.toList with
   | some ps=>C1 (G3 ps) z l fun v=>k v h
   | none=>none)
  | some z,some l,some (.array _ e)=>(match T.size e with
   | some s=>C1 (Aex s) z l fun v=>k v h
   | none=>none)
  | _,_,_=>none)
 | .buildSlice t n ps=>(match T.Hs t,Ak5 ρ ps.toList with
  | some (.slice e),some l=>(match T.size e,T.zero e with
   | some s,some z=>Aj (B3 z e s n l h) k
   | _,_=>none)
  | _,_=>none)
 | .makeFunc (.func f) first captured=>(match Afe ρ first.toList,Afe ρ captured.toList with|some a,some b=>k (.func f a b) h|_,_=>none)
 | .sliceToArrayPointer t x=>(match C7 ρ x,T.Hs t with|some e,some (.array n _)=>Agy n e fun v=>k v h|_,_=>none)
 | .slice t x lo hi mx=>(match C7 ρ x,Aqr ρ lo,Aqr ρ hi,Aqr ρ mx with
  | some e,some lo,some hi,some mx=>(match T.Hs t with
   | some (.array n et)=>(match T.size et with|some s=>Acs n s e lo hi mx fun v=>k v h|none=>none)
   | some (.slice et)=>(match T.size et with|some s=>Arj s e lo hi mx fun v=>k v h|none=>none)
   | _=>none)
  | _,_,_,_=>none)
 | .makeSlice t l c=>(match C7 ρ l,C7 ρ c,T.Hs t with
  | some l,some c,some (.slice e)=>(match T.zero e with|some z=>Aj (O4 z e l c h) k|none=>none)
  | _,_,_=>none)
 | .makeMap _ none=>Aj (Ain h) k
 | .makeChan t s=>(match C7 ρ s,T.Hs t with
  | some s,some (.chan _ e)=>(match T.size e with|some _=>Aj (Adx s h) k|none=>none)
  | _,_=>none)
 | .lookup t x ix ok=>(match C7 ρ x,C7 ρ ix,T.Hs t with|some m,some i,some (.map kt e)=>Aj (Ag3 T kt e ok m i h) k|_,_,_=>none)
 | .mapUpdate t m ix x=>(match C7 ρ m,C7 ρ ix,C7 ρ x,T.Hs t with|some m,some i,some x,some (.map kt _)=>Aj (V3 T kt m i x h) k|_,_,_,_=>none)
 | .select cs false=>(match cs.toList with
  | [c]=>(match c.send with
   | some x=>(match C7 ρ c.chan,C7 ρ x,zeroOf T c.elem with|some c,some x,some _=>Aj (Ami c x h) k|_,_,_=>none)
   | none=>(match C7 ρ c.chan,zeroOf T c.elem with|some c,some zv=>Aj (Ali zv c h) k|_,_=>none))
  | _=>none)
 | _=>none
def Axv(T:D7)(op:Op):Bool:=
 match op with
 | .move _ | .assign _ | .pick .. | .binOp .. | .unOp .not .. | .unOp .neg .. | .nilCheck _ | .fieldAddr .. | .indexAddr .. | .field .. | .convert .. | .extract .. | .load .. | .store .. | .alloc _ | .box .. | .call ..=>true
 | .index t x ix=>(match A7 x,A7 ix,T.Hs t with|some _,some _,some (.array ..)=>true|_,_,_=>false)
 | .build .. | .buildSlice .. | .makeFunc (.func _) .. | .sliceToArrayPointer .. | .slice .. | .makeSlice .. | .makeMap _ none | .makeChan .. | .lookup .. | .mapUpdate .. | .select _ false=>true
 | _=>false
end
theorem Cr(tm:Ag)(x:Operand):C7 (tmp tm) x=(A7 x).map fun e=>e tm:=by
 cases x with
 | tmp t=>show some (tmp tm t)=some (Aui (pathOf t) tm);rw[Z1]
 | const v=>show ofV v=Option.map _ (match ofV v with|some c=>some (Kb c)|none=>none);cases ofV v <;> rfl
 | global g=>rfl
 | func f=>rfl
theorem Acm(tm:Ag)(l:List Operand):Afe (tmp tm) l=(Gy l).map fun e=>e tm:=by
 induction l with
 | nil=>rfl
 | cons x r ih=>
  show (match C7 (tmp tm) x,Afe (tmp tm) r with|some e,some es=>some (e::es)|_,_=>none)=Option.map _ (match A7 x,Gy r with|some e,some es=>some (fun tm=>e tm::es tm)|_,_=>none)
  rw[ih,Cr]
  cases A7 x <;> cases Gy r <;> rfl
theorem Aoj(tm:Ag)(l:List (Nat × Operand)):Ak5 (tmp tm) l=(Xc l).map fun e=>e tm:=by
 induction l with
 | nil=>rfl
 | cons x r ih=>
  show (match C7 (tmp tm) x.2,Ak5 (tmp tm) r with|some e,some es=>some ((x.1,e)::es)|_,_=>none)=Option.map _ (match A7 x.2,Xc r with|some e,some es=>some (fun tm=>(x.1,e tm)::es tm)|_,_=>none)
  rw[ih,Cr]
  cases A7 x.2 <;> cases Xc r <;> rfl
theorem A1p(tm:Ag)(x:Option Operand):Aqr (tmp tm) x=(Ag6 x).map fun e=>e tm:=by
 cases x with
 | none=>rfl
 | some x=>
  show (match C7 (tmp tm) x with|some e=>some (some e)|none=>none)=Option.map _ (match A7 x with|some e=>some (fun tm=>some (e tm))|none=>none)
  rw[Cr];cases A7 x <;> rfl
theorem Alu {T:D7}{call round:Ac}{op:Op}(ok:Axv T op=true)(k:KF)(tm:Ag)(h:Aa):H9 T call round op k tm h []=Tc T call call round op (tmp tm) h fun v h=>k v tm h []:=by
 cases op with
 | move x=>simp only[H9,Tc,Cr];cases A7 x <;> rfl
 | assign x=>simp only[H9,Tc,Cr];cases A7 x <;> rfl
 | pick c a b=>simp only[H9,Tc,Cr];cases A7 c <;> cases A7 a <;> cases A7 b <;> rfl
 | binOp op t x y sh=>
  simp only[H9,Tc,Cr]
  cases A7 x <;> cases A7 y <;> try rfl
  simp only[Option.map_some]
  cases A28 op <;> rfl
 | unOp o t x=>
  cases o with
  | not=>simp only[H9,Tc,Cr];cases A7 x <;> rfl
  | neg=>simp only[H9,Tc,Cr];cases A7 x <;> first|rfl|exact A3c
  | _=>cases ok
 | nilCheck x=>simp only[H9,Tc,Cr];cases A7 x <;> rfl
 | fieldAddr s x f=>
  simp only[H9,Tc,Cr]
  cases A7 x with
  | none=>rfl
  | some e=>
   cases T.Hs s with
   | none=>rfl
   | some d=>
    cases d <;> try rfl
    rename_i fs
    simp only[Option.map_some]
    cases Ajb fs.toList f with
    | none=>rfl
    | some fd=>
     simp only
     cases T.size fd.type with
     | none=>rfl
     | some n=>simp only;cases Nat.beq n 0 <;> rfl
 | indexAddr t x ix=>
  simp only[H9,Tc,Cr]
  cases A7 x <;> cases A7 ix <;> try rfl
  simp only[Option.map_some]
  cases T.Hs t with
  | none=>rfl
  | some d=>
   cases d <;> try rfl
   ·rename_i n et;simp only;cases T.size et <;> rfl
   ·rename_i et;simp only;cases T.size et <;> first|rfl|exact Ao6
 | index t x ix=>
  simp only[Axv]at ok
  simp only[H9,Tc,Cr]
  generalize A7 x=ex at ok ⊢
  generalize A7 ix=ei at ok ⊢
  generalize T.Hs t=u at ok ⊢
  cases ex <;> try (cases ok;done)
  cases ei <;> try (cases ok;done)
  cases u <;> try (cases ok;done)
  rename_i d
  cases d <;> try (cases ok;done)
  rename_i n et
  simp only[Option.map_some]
  cases T.size et <;> cases T.agg et <;> rfl
 | field t x f=>
  simp only[H9,Tc,Cr]
  cases A7 x with
  | none=>rfl
  | some e=>
   cases T.Hs t with
   | none=>rfl
   | some d=>
    cases d <;> try rfl
    rename_i fs
    simp only[Option.map_some]
    cases Ajb fs.toList f with
    | none=>rfl
    | some fd=>
     simp only
     cases T.agg fd.type with
     | none=>rfl
     | some b=>cases b <;> simp only <;> first|rfl|(cases T.size fd.type <;> rfl)
 | convert s t x=>
  simp only[H9,Tc,Cr]
  cases A7 x <;> cases T.Hs s <;> cases T.Hs t <;> try rfl
  rename_i d
  cases d <;> rfl
 | extract x ix=>simp only[H9,Tc,Cr];cases A7 x <;> rfl
 | load t x=>
  simp only[H9,Tc,Cr]
  cases A7 x with
  | none=>rfl
  | some e=>
   cases T.agg t with
   | none=>rfl
   | some b=>cases b <;> simp only[Option.map_some] <;> first|exact Ao3|(cases T.size t <;> first|rfl|exact Aow)
 | store t a x=>simp only[H9,Tc,Cr];cases A7 a <;> cases A7 x <;> cases T.size t <;> rfl
 | alloc t=>simp only[H9,Tc];cases T.zero t <;> rfl
 | box t x=>simp only[H9,Tc,Cr];cases A7 x <;> rfl
 | build t ps=>
  simp only[H9,Tc,Aoj]
  cases T.zero t <;> cases Xc ps.toList <;> cases T.Hs t <;> try rfl
  rename_i d
  cases d <;> try rfl
  ·rename_i n et;simp only[Option.map_some];cases T.size et <;> first|rfl|exact Amm _ _ _
  ·rename_i fs;simp only[Option.map_some];cases placesOf T fs.toList <;> first|rfl|exact Amm _ _ _
 | buildSlice t n ps=>
  simp only[H9,Tc,Aoj]
  cases T.Hs t with
  | none=>rfl
  | some d=>
   cases d <;> try rfl
   rename_i e
   cases Xc ps.toList <;> try rfl
   simp only[Option.map_some]
   cases T.size e <;> cases T.zero e <;> rfl
 | makeFunc f a b=>
  cases f <;> try (cases ok;done)
  simp only[H9,Tc,Acm]
  cases Gy a.toList <;> cases Gy b.toList <;> rfl
 | sliceToArrayPointer t x=>
  simp only[H9,Tc,Cr]
  cases A7 x <;> cases T.Hs t <;> try rfl
  rename_i d
  cases d <;> first|rfl|exact Awh _
 | slice t x lo hi mx=>
  simp only[H9,Tc,Cr,A1p]
  cases A7 x <;> cases Ag6 lo <;> cases Ag6 hi <;> cases Ag6 mx <;> try rfl
  simp only[Option.map_some]
  rename_i e1 l1 h1 m1
  cases T.Hs t with
  | none=>rfl
  | some d=>
   cases d <;> try rfl
   ·rename_i et;simp only;cases T.size et <;> rfl
   ·rename_i n et
    simp only
    cases T.size et with
    | none=>rfl
    | some s=>exact Axn n s l1 h1 m1
 | makeSlice t l c=>
  simp only[H9,Tc,Cr]
  cases A7 l <;> cases A7 c <;> cases T.Hs t <;> try rfl
  rename_i d
  cases d <;> try rfl
  rename_i e;simp only[Option.map_some];cases T.zero e <;> rfl
 | makeMap t n=>cases n <;> first|rfl|cases ok
 | makeChan t s=>
  simp only[H9,Tc,Cr]
  cases A7 s <;> cases T.Hs t <;> try rfl
  rename_i d
  cases d <;> try rfl
  rename_i dr e;simp only[Option.map_some];cases T.size e <;> rfl
 | lookup t x ix b=>
  simp only[H9,Tc,Cr]
  cases A7 x <;> cases A7 ix <;> cases T.Hs t <;> try rfl
  rename_i d
  cases d <;> rfl
 | mapUpdate t m ix x=>
  simp only[H9,Tc,Cr]
  cases A7 m <;> cases A7 ix <;> cases A7 x <;> cases T.Hs t <;> try rfl
  rename_i d
  cases d <;> rfl
 | select cs b=>
  cases b <;> try (cases ok;done)
  simp only[H9,Tc,Cr]
  generalize cs.toList=l
  match l with
  | []=>rfl
  | [c]=>
   simp only
   cases c.send with
   | none=>simp only;cases A7 c.chan <;> cases zeroOf T c.elem <;> rfl
   | some x=>simp only[Cr];cases A7 c.chan <;> cases A7 x <;> cases zeroOf T c.elem <;> rfl
  | _::_::_=>rfl
 | call c=>
  obtain⟨callee,args,ats⟩:=c
  cases callee with
  | value f=>
   cases f with
   | func g=>simp only[H9,Tc,Acm];cases Gy args.toList <;> rfl
   | global g=>rfl
   | tmp t=>
    simp only[H9,Tc,Acm]
    rw[Cr]
    generalize A7 _=ex
    cases ex <;> cases Gy args.toList <;> first|rfl|exact Aml _
   | const v=>
    simp only[H9,Tc,Acm]
    rw[Cr]
    generalize A7 _=ex
    cases ex <;> cases Gy args.toList <;> first|rfl|exact Aml _
  | builtin b=>
   have gen:∀ b,b ≠ .append->b ≠ .len->H9 T call round (.call ⟨.builtin b,args,ats⟩) k tm h []=Tc T call call round (.call ⟨.builtin b,args,ats⟩) (tmp tm) h fun v h=>k v tm h []:=fun b h1 h2=>by
    cases b <;> first|exact absurd rfl h1|exact absurd rfl h2|(simp only[H9,Tc,Acm];cases Gy args.toList <;> rfl)
   by_cases h1:b=.append
   ·subst h1
    simp only[H9,Tc,Cr]
    generalize args.toList=l
    generalize ats.toList=r
    match l,r with
    | [],_=>rfl
    | [_],_=>rfl
    | _::_::_::_,_=>rfl
    | [s,x],[]=>rfl
    | [s,x],[_]=>rfl
    | [s,x],_::_::_::_=>rfl
    | [s,x],[t,u]=>
     simp only[Cr]
     cases A7 s <;> cases A7 x <;> try rfl
     simp only[Option.map_some]
     cases T.Hs u with
     | none=>rfl
     | some d=>
      cases d <;> try rfl
      cases T.Hs t with
      | none=>rfl
      | some d'=>
       cases d' <;> try rfl
       rename_i e
       simp only
       cases T.size e <;> cases T.zero e <;> rfl
   ·by_cases h2:b=.len
    ·subst h2
     simp only[H9,Tc,Cr]
     generalize args.toList=l
     generalize hr:ats.toList=r
     match l,r,hr with
     | [],_,_=>rfl
     | _::_::_,_,_=>rfl
     | [x],[],_=>rfl
     | [x],_::_::_,_=>rfl
     | [x],[t],hr=>
      simp only[Cr]
      cases A7 x <;> try rfl
      simp only[Option.map_some]
      cases T.Hs t with
      | none=>rfl
      | some d=>cases d <;> rfl
    ·exact gen b h1 h2
  | _=>rfl
 | _=>cases ok
noncomputable section
abbrev Xp(n:Nat)(d:Option Tmp)(ρ:VS)(v:EV):VS:=match d with|none=>ρ|some d=>Ar (Nat.ble (Nat.succ d) n) (Az0 ρ d v) ρ
abbrev Atj(ops:List Oper)(ρ:VS)(g:Nat × Bool):Bool:=match Ah2 ops g.1 with
 | some o=>(match o.dst with|some d=>Au (ρ d) g.2|none=>false)
 | none=>false
abbrev Aqo(T:D7)(call callV round:Ac)(n:Nat)(ops:List Oper)(fin:CD)(l:List Oper):Mode->CD:=
 @List.rec Oper (fun _=>Mode->CD) (fun _=>fin) (fun o _ ih m=>@Option.rec (Nat × Bool) (fun _=>CD) (fun ρ h=>Tc T call callV round o.op ρ h fun v h=>ih none (Xp n o.dst ρ v) h)
  (fun g ρ h=>match Mo m g with
   | some true=>Tc T call callV round o.op ρ h fun v h=>ih (Dd ops g true o.dst) (Xp n o.dst ρ v) h
   | some false=>ih (Dd ops g false o.dst) (Xp n o.dst ρ (.tuple [])) h
   | none=>Ar (Atj ops ρ g) (Tc T call callV round o.op ρ h fun v h=>ih (Dd ops g true o.dst) (Xp n o.dst ρ v) h) (ih (Dd ops g false o.dst) (Xp n o.dst ρ (.tuple [])) h)) o.guard) l
abbrev Ata(T:D7)(call callV round:Ac)(op:Op)(i b base:Nat)(s:DX)(ρ:VS)(h:Aa)(k:DX->EV->Aa->R):R:=
 match cls op with
 | .val=>Tc T call callV round op ρ h (k s)
 | .load=>(match op with | .load t x=>(match C7 ρ x with|some e=>Bn i b base e s fun s=>Tc T call callV round (.load t x) ρ h (k s)|none=>none)|_=>none)
 | .new=>Adm i h s fun s=>Tc T call callV round op ρ h (k s)
 | .Yr=>(match op with | .store t a x=>(match C7 ρ a with|some e=>Ahp i b e s fun s=>Tc T call callV round (.store t a x) ρ h (k s)|none=>none)|_=>none)
 | .pur=>A7w h fun h0=>Tc T call callV round op ρ h0 fun v _=>k s v h
 | .Tu=>Ar (Q5 b s) (Tc T call callV round op ρ (Et b s h) fun v h'=>Hm i b s h h' fun s h=>k s v h) none
abbrev Amv(T:D7)(call callV round:Ac)(n:Nat)(ops:List Oper)(bs:Tr Nat)(base:Nat)(fin:CD)(l:List Oper):Nat->Mode->DX->CD:=
 @List.rec Oper (fun _=>Nat->Mode->DX->CD) (fun _ _ _=>fin) (fun o _ ih i m s ρ h=>match bs.get i with
  | none=>none
  | some b=>@Option.rec (Nat × Bool) (fun _=>CD) (fun ρ h=>Ata T call callV round o.op i b base s ρ h fun s v h=>ih (Nat.succ i) none s (Xp n o.dst ρ v) h)
   (fun g ρ h=>match Mo m g with
    | some true=>Ata T call callV round o.op i b base s ρ h fun s v h=>ih (Nat.succ i) (Dd ops g true o.dst) s (Xp n o.dst ρ v) h
    | some false=>ih (Nat.succ i) (Dd ops g false o.dst) s (Xp n o.dst ρ (.tuple [])) h
    | none=>Ar (Atj ops ρ g) (Ata T call callV round o.op i b base s ρ h fun s v h=>ih (Nat.succ i) (Dd ops g true o.dst) s (Xp n o.dst ρ v) h) (ih (Nat.succ i) (Dd ops g false o.dst) s (Xp n o.dst ρ (.tuple [])) h)) o.guard ρ h) l
abbrev Ars(T:D7)(call callV round:Ac)(n:Nat)(ops:List Oper)(fin:CD):CD:=fun ρ h=>
 Ar (Vr ops 0) (Ar (S5 ops (Ho ops 0 .nil) ops 0 []) (Gs h fun base s=>Amv T call callV round n ops (Ho ops 0 .nil) base fin ops 0 none s ρ h) none) none
abbrev Akn:=List (Nat × CD)
abbrev A9n(env:Akn)(id:Nat):CD:=@List.rec (Nat × CD) (fun _=>CD) (fun _ _=>none) (fun p _ ih=>@Prod.rec Nat CD (fun _=>CD) (fun j k=>Ar (Nat.beq j id) k ih) p) env
abbrev G2(c:CD->CD)(fuel:Nat):CD:=@Nat.rec (fun _=>CD) (fun _ _=>none) (fun _ ih=>c ih) fuel
abbrev Fq(T:D7)(call callV round:Ac)(fuel n:Nat)(ret:CD)(c:Code):Akn->CD->CD:=
 @Code.rec (fun _=>Akn->CD->CD) (fun _ k=>k)
  (fun _ ops dr _ k=>Ar dr (Ar (Sn T ops.toList) (Aqo T call callV round n ops.toList k ops.toList none) (Ars T call callV round n ops.toList k)) (Aqo T call callV round n ops.toList k ops.toList none))
  (fun _ _ a b env k=>a env (b env k))
  (fun c _ _ a b env k ρ h=>match C7 ρ c with|some e=>D8 e (a env k ρ h) (b env k ρ h)|none=>none)
  (fun id _ c env k=>c ((id,k)::env) k)
  (fun _ c env _=>G2 (fun ih=>c env ih) fuel)
  (fun _ _ _ _ _ _ _ _ _ _=>none)
  (fun id env _=>A9n env id) (fun _ _ _ _ _ _=>none) (fun _ _ k=>k) (fun _ _ _ _ _=>none) (fun _ _=>ret) (fun _ _ _ _ _=>none) c
def Aoo(T:D7)(l:List Oper):Bool:=@List.rec Oper (fun _=>Bool) true (fun o _ ih=>Ar (Axv T o.op) ih false) l
def okC(T:D7)(c:Code):Bool:=@Code.rec (fun _=>Bool) true (fun _ ops _=>Aoo T ops.toList) (fun _ _ a b=>Ar a b false) (fun _ _ _ a b=>Ar a b false) (fun _ _ a=>a) (fun _ a=>a)
 (fun _ _ _ _ _ _=>false) (fun _=>true) (fun _ a=>a) (fun _=>true) (fun _=>true) true (fun _=>true) c
abbrev rvD(ρ:VS):ResultVar->RV
 | .tmp t=>.v (ρ t)
 | .cell a t=>.c (ρ a) t
abbrev A1y(T:D7)(res:List ResultVar):CD:=fun ρ h=>match res with
 | [.tmp t]=>some (ρ t,h)
 | []=>some (.tuple [],h)
 | [.tmp s,.tmp t]=>some (.tuple [ρ s,ρ t],h)
 | res=>Iz T (res.map (rvD ρ)) h
abbrev Am3(l:List EV):Nat->VS->VS:=@List.rec EV (fun _=>Nat->VS->VS) (fun _ ρ=>ρ) (fun v _ ih i ρ=>ih (Nat.succ i) (Az0 ρ i v)) l
abbrev A6n(T:D7)(call callV round:Ac)(fuel f:Nat)(args:List EV)(h:Aa):R:=
 match T.fn f with
 | some { ntmps:=n,body:=some c,results:=res,.. }=>Ar (Nat.ble (K9 args) n) (Fq T call callV round fuel n (A1y T res.toList) c [] (A1y T res.toList) (Am3 args 0 fun _=>.tuple []) h) none
 | _=>none
def okF(T:D7)(f:Nat):Bool:=match T.fn f with|some { body:=some c,.. }=>okC T c|_=>false
end
def Eqv(k:CF)(k':CD):Prop:=∀ tm h,k tm h []=k' (tmp tm) h
theorem Awx(tm:Ag)(d:Nat)(v:EV):tmp (tm.put d (some v))=Az0 (tmp tm) d v:=funext fun i=>by
 rw[Jd];show _=Ar (Nat.beq d i) v (tmp tm i)
 by_cases e:d=i
 ·subst e;rw[if_pos rfl,Nat.beq_refl,Ak]
 ·rw[if_neg e,beq_false e,Av]
theorem Ais {n:Nat}{d:Option Tmp}{k:CF}{k':CD}(hk:Eqv k k')(v:EV)(tm:Ag)(h:Aa):Gu n d k v tm h []=k' (Xp n d (tmp tm) v) h:=by
 cases d with
 | none=>exact hk tm h
 | some d=>
  show Ar (Nat.ble (Nat.succ d) n) (fun(v:EV) tm h ds=>k (Ix (pathOf d) (some v) tm) h ds) (fun _=>k) v tm h []=k' (Ar (Nat.ble (Nat.succ d) n) (Az0 (tmp tm) d v) (tmp tm)) h
  cases Nat.ble (Nat.succ d) n with
  | true=>show k (Ix (pathOf d) (some v) tm) h []=k' (Az0 (tmp tm) d v) h;rw[hk,Ag4,Awx]
  | false=>exact hk tm h
theorem Av6(ops:List Oper)(g:Nat × Bool)(tm:Ag):Vg ops g tm=Atj ops (tmp tm) g:=by
 unfold Vg
 show _=(match Ah2 ops g.1 with|some o=>(match o.dst with|some d=>Au (tmp tm d) g.2|none=>false)|none=>false)
 cases Ah2 ops g.1 with
 | none=>rfl
 | some o=>
  simp only
  cases o.dst with
  | none=>rfl
  | some d=>
   simp only
   exact Bq (k:=Dc (pathOf d)) rfl g.2 tm
theorem Auu {T:D7}{call round:Ac}{n:Nat}{ops:List Oper}{fin:CF}{fin':CD}(hf:Eqv fin fin'):∀ (l:List Oper) (m:Mode),Aoo T l=true->Eqv (V6 T call round n ops fin l m) (Aqo T call call round n ops fin' l m)
 | [],m,_=>hf
 | o::l,m,ok=>by
  obtain⟨ok1,ok2⟩:=Qq (show Ar (Axv T o.op) (Aoo T l) false=true from ok)
  have ih:=fun m=>Auu (call:=call) (round:=round) (n:=n) (ops:=ops) hf l m ok2
  have one:∀ m tm h,H9 T call round o.op (Gu n o.dst (V6 T call round n ops fin l m)) tm h []=Tc T call call round o.op (tmp tm) h fun v h=>Aqo T call call round n ops fin' l m (Xp n o.dst (tmp tm) v) h:=fun m tm h=>by
   rw[Alu ok1];congr 1;funext v h;exact Ais (ih m) v tm h
  intro tm h
  obtain⟨dst,op,ty,ps,af,g⟩:=o
  cases g with
  | none=>exact one none tm h
  | some g=>
   show Afh (Mo m g) (H9 T call round op (Gu n dst (V6 T call round n ops fin l (Dd ops g true dst)))) (Gu n dst (V6 T call round n ops fin l (Dd ops g false dst)) (.tuple []))
    (Acl (Vg ops g) (H9 T call round op (Gu n dst (V6 T call round n ops fin l (Dd ops g true dst)))) (Gu n dst (V6 T call round n ops fin l (Dd ops g false dst)))) tm h [] =
    (match Mo m g with
     | some true=>Tc T call call round op (tmp tm) h fun v h=>Aqo T call call round n ops fin' l (Dd ops g true dst) (Xp n dst (tmp tm) v) h
     | some false=>Aqo T call call round n ops fin' l (Dd ops g false dst) (Xp n dst (tmp tm) (.tuple [])) h
     | none=>Ar (Atj ops (tmp tm) g) (Tc T call call round op (tmp tm) h fun v h=>Aqo T call call round n ops fin' l (Dd ops g true dst) (Xp n dst (tmp tm) v) h) (Aqo T call call round n ops fin' l (Dd ops g false dst) (Xp n dst (tmp tm) (.tuple [])) h))
   cases Mo m g with
   | none=>
    show Ar (Vg ops g tm) (H9 T call round op _ tm h []) (Gu n dst _ (.tuple []) tm h [])=_
    rw[Av6,one,Ais (ih _)]
   | some b=>cases b with
    | true=>exact one _ tm h
    | false=>exact Ais (ih _) _ tm h
theorem A8p {T:D7}{call round:Ac}{op:Op}(ok:Axv T op=true){i b base:Nat}{s:DX}{k:DX->KF}{tm:Ag}{h:Aa}{k':DX->EV->Aa->R}(hk:∀ s v h,k s v tm h []=k' s v h):
 dOp T call round op i b base s k tm h []=Ata T call call round op i b base s (tmp tm) h k':=by
 have e:∀ s (_:Aa),(fun(v:EV) (h:Aa)=>k s v tm h [])=k' s:=fun s _=>funext fun v=>funext fun h=>hk s v h
 unfold dOp Ata
 cases hc:cls op with
 | val=>simp only;rw[Alu ok,e s h]
 | new=>simp only;show H9 T call round op (k _) tm h []=_;rw[Alu ok,e _ h];rfl
 | load=>
  obtain⟨t,x,rfl⟩:=Amz hc
  simp only[Cr]
  cases A7 x with
  | none=>rfl
  | some ex=>
   show Ke (fun q _=>Ar (Ab0 b base q s) (H9 T call round (.load t x) (k (s.ld i q)) tm h []) none) (ex tm)=Ke (fun q _=>Ar (Ab0 b base q s) (Tc T call call round (.load t x) (tmp tm) h (k' (s.ld i q))) none) (ex tm)
   congr 1;funext q o;rw[Alu ok,e _ h]
 | Yr=>
  cases op <;> try rfl
  rename_i t a x
  simp only[Cr]
  cases A7 a with
  | none=>rfl
  | some ea=>
   show Ke (fun q _=>Ar (Ajo b q s) (H9 T call round (.store t a x) (k (s.Yr i q)) tm h []) none) (ea tm)=Ke (fun q _=>Ar (Ajo b q s) (Tc T call call round (.store t a x) (tmp tm) h (k' (s.Yr i q))) none) (ea tm)
   congr 1;funext q o;rw[Alu ok,e _ h]
 | pur=>
  show H9 T call round op (fun v tm _ ds=>k s v tm h ds) tm ⟨.nil,h.next,h.next⟩ []=Tc T call call round op (tmp tm) ⟨.nil,h.next,h.next⟩ fun v _=>k' s v h
  rw[Alu ok];congr 1;funext v h';exact hk s v h
 | Tu=>
  show Ar (Q5 b s) (H9 T call round op (fun v tm h' ds=>Hm i b s h h' (fun s h=>k s v tm h ds)) tm (Et b s h) []) none=Ar (Q5 b s) (Tc T call call round op (tmp tm) (Et b s h) fun v h'=>Hm i b s h h' fun s h=>k' s v h) none
  rw[Alu ok];congr 2;funext v h';congr 1;funext s h;exact hk s v h
theorem Awi {T:D7}{call round:Ac}{n:Nat}{ops:List Oper}{bs:Tr Nat}{base:Nat}{fin:CF}{fin':CD}(hf:Eqv fin fin'):∀ (l:List Oper) (i:Nat) (m:Mode) (s:DX),Aoo T l=true ->
 Eqv (Jk T call round n ops bs base fin l i m s) (Amv T call call round n ops bs base fin' l i m s)
 | [],i,m,s,_=>hf
 | o::l,i,m,s,ok=>by
  obtain⟨ok1,ok2⟩:=Qq (show Ar (Axv T o.op) (Aoo T l) false=true from ok)
  have ih:=fun i m s=>Awi (call:=call) (round:=round) (n:=n) (ops:=ops) (bs:=bs) (base:=base) hf l i m s ok2
  have one:∀ b m tm h,dOp T call round o.op i b base s (fun s=>Gu n o.dst (Jk T call round n ops bs base fin l (Nat.succ i) m s)) tm h [] =
   Ata T call call round o.op i b base s (tmp tm) h fun s v h=>Amv T call call round n ops bs base fin' l (Nat.succ i) m s (Xp n o.dst (tmp tm) v) h:=fun b m tm h=>
   A8p ok1 fun s v h=>Ais (ih _ m s) v tm h
  intro tm h
  obtain⟨dst,op,ty,ps,af,g⟩:=o
  show A23 (bs.get i) _ tm h []=(match bs.get i with|none=>none|some b=>_)
  cases bs.get i with
  | none=>rfl
  | some b=>
   cases g with
   | none=>exact one b none tm h
   | some g=>
    show Afh (Mo m g) (dOp T call round op i b base s fun s=>Gu n dst (Jk T call round n ops bs base fin l (Nat.succ i) (Dd ops g true dst) s)) (Gu n dst (Jk T call round n ops bs base fin l (Nat.succ i) (Dd ops g false dst) s) (.tuple []))
     (Acl (Vg ops g) (dOp T call round op i b base s fun s=>Gu n dst (Jk T call round n ops bs base fin l (Nat.succ i) (Dd ops g true dst) s)) (Gu n dst (Jk T call round n ops bs base fin l (Nat.succ i) (Dd ops g false dst) s))) tm h [] =
     (match Mo m g with
      | some true=>Ata T call call round op i b base s (tmp tm) h fun s v h=>Amv T call call round n ops bs base fin' l (Nat.succ i) (Dd ops g true dst) s (Xp n dst (tmp tm) v) h
      | some false=>Amv T call call round n ops bs base fin' l (Nat.succ i) (Dd ops g false dst) s (Xp n dst (tmp tm) (.tuple [])) h
      | none=>Ar (Atj ops (tmp tm) g) (Ata T call call round op i b base s (tmp tm) h fun s v h=>Amv T call call round n ops bs base fin' l (Nat.succ i) (Dd ops g true dst) s (Xp n dst (tmp tm) v) h) (Amv T call call round n ops bs base fin' l (Nat.succ i) (Dd ops g false dst) s (Xp n dst (tmp tm) (.tuple [])) h))
    cases Mo m g with
    | none=>
     show Ar (Vg ops g tm) (dOp T call round op i b base s _ tm h []) (Gu n dst _ (.tuple []) tm h [])=_
     rw[Av6,one,Ais (ih _ _ _)]
    | some b'=>cases b' with
     | true=>exact one b _ tm h
     | false=>exact Ais (ih _ _ _) _ tm h
theorem Z7 {T:D7}{call round:Ac}{fuel fn n:Nat}{ret:CF}{ret':CD}(hr:Eqv ret ret'):∀ (c:Code) (env:Env) (env':Akn) (k:CF) (k':CD),okC T c=true->(∀ id,Eqv (Ank (fun _=>C0) env id) (A9n env' id))->Eqv k k' ->
 Eqv (Lj T call round fuel fn n none (fun _=>C0) ret c env k) (Fq T call call round fuel n ret' c env' k')
 | .skip,env,env',k,k',_,he,hk=>hk
 | .region id ops dr,env,env',k,k',ok,he,hk=>by
  have ok:Aoo T ops.toList=true:=ok
  cases dr with
  | false=>exact Auu hk ops.toList none ok
  | true=>
   show Eqv (Ar (Sn T ops.toList) (V6 T call round n ops.toList k ops.toList none) (Alv T call round n ops.toList k)) (Ar (Sn T ops.toList) (Aqo T call call round n ops.toList k' ops.toList none) (Ars T call call round n ops.toList k'))
   cases Sn T ops.toList with
   | true=>exact Auu hk ops.toList none ok
   | false=>
    show Eqv (Alv T call round n ops.toList k) (Ars T call call round n ops.toList k')
    unfold Alv Ars
    intro tm h
    cases Vr ops.toList 0 <;> try rfl
    cases S5 ops.toList (Ho ops.toList 0 .nil) ops.toList 0 [] <;> try rfl
    exact Awi hk ops.toList 0 none _ ok tm h
 | .seq a b,env,env',k,k',ok,he,hk=>by
  obtain⟨oa,ob⟩:=Qq (show Ar (okC T a) (okC T b) false=true from ok)
  exact Z7 hr a env env' _ _ oa he (Z7 hr b env env' k k' ob he hk)
 | .cond c a b,env,env',k,k',ok,he,hk=>by
  obtain⟨oa,ob⟩:=Qq (show Ar (okC T a) (okC T b) false=true from ok)
  have ha:=Z7 (call:=call) (round:=round) (fuel:=fuel) (fn:=fn) (n:=n) hr a env env' _ _ oa he hk
  have hb:=Z7 (call:=call) (round:=round) (fuel:=fuel) (fn:=fn) (n:=n) hr b env env' _ _ ob he hk
  intro tm h
  show (match A7 c with|some e=>Ae9 e _ _|none=>C0) tm h []=(match C7 (tmp tm) c with|some e=>D8 e _ _|none=>none)
  rw[Cr]
  cases A7 c with
  | none=>rfl
  | some e=>
   show onB (Lj T call round fuel fn n none (fun _=>C0) ret a env k tm h []) (Lj T call round fuel fn n none (fun _=>C0) ret b env k tm h []) (e tm)=onB _ _ (e tm)
   rw[ha tm h,hb tm h]
 | .block id c,env,env',k,k',ok,he,hk=>by
  refine Z7 hr c ((id,k)::env) ((id,k')::env') k k' ok (fun j=>?_) hk
  show Eqv (Ar (Nat.beq id j) k _) (Ar (Nat.beq id j) k' _)
  cases Nat.beq id j with
  | true=>exact hk
  | false=>exact he j
 | .loop c,env,env',k,k',ok,he,hk=>by
  show Eqv (Aj8 (fun ih=>Lj T call round fuel fn n none (fun _=>C0) ret c env ih) fuel) (G2 (fun ih=>Fq T call call round fuel n ret' c env' ih) fuel)
  have:∀ m,Eqv (Aj8 (fun ih=>Lj T call round fuel fn n none (fun _=>C0) ret c env ih) m) (G2 (fun ih=>Fq T call call round fuel n ret' c env' ih) m):=fun m=>by
   induction m with
   | zero=>exact fun _ _=>rfl
   | succ m ih=>exact Z7 hr c env env' _ _ ok he ih
  exact this fuel
 | .rangeFunc ..,_,_,_,_,ok,_,_=>by cases ok
 | .exit id,env,env',k,k',_,he,hk=>he id
 | .scope _,_,_,_,_,_,_,_=>fun _ _=>rfl
 | .label _,_,_,_,_,_,_,hk=>hk
 | .goto _,_,_,_,_,_,_,_=>fun _ _=>rfl
 | .ret,_,_,_,_,_,_,_=>hr
 | .refuse _,_,_,_,_,_,_,_=>fun _ _=>rfl
theorem A2s(T:D7)(res:List ResultVar):Eqv (Aha T res) (A1y T res):=fun tm h=>by
 show Aiv T res tm h=_
 have gen:Aiv T res tm h=Iz T (res.map (rvD (tmp tm))) h:=by
  rw[A1l]
  have:Ag9 tm=rvD (tmp tm):=funext fun x=>by cases x <;> rfl
  rw[this]
 unfold A1y
 split
 ·simp only[Aiv,Z1]
 ·rfl
 ·simp only[Aiv,Z1]
 ·exact gen
theorem Aw4:∀ (l:List EV) (i:Nat) (tm:Ag),tmp (Sj l i tm)=Am3 l i (tmp tm)
 | [],_,_=>rfl
 | v::r,i,tm=>by
  show tmp (Sj r (Nat.succ i) (Ix (pathOf i) (some v) tm))=Am3 r (Nat.succ i) (Az0 (tmp tm) i v)
  rw[Aw4 r,Ag4,Awx]
theorem A6d {T:D7}{call round:Ac}{fuel f:Nat}(ok:okF T f=true)(args:List EV)(h:Aa):Adq T call round fuel f args h=A6n T call call round fuel f args h:=by
 unfold okF at ok
 unfold Adq A6n
 cases hf:T.fn f with
 | none=>rfl
 | some fn=>
  rw[hf]at ok
  obtain⟨name,origin,targs,params,rts,nfree,n,results,body,nr,ours,file,el,ln,met,tn⟩:=fn
  cases body with
  | none=>rfl
  | some c=>
   simp only at ok ⊢
   show Ar (Nat.ble (K9 args) n) (Lj T call round fuel f n none (fun _=>C0) (Aha T results.toList) c [] (Aha T results.toList) (Sj args 0 .nil) h []) none=_
   cases Nat.ble (K9 args) n with
   | false=>rfl
   | true=>
    show Lj T call round fuel f n none (fun _=>C0) (Aha T results.toList) c [] (Aha T results.toList) (Sj args 0 .nil) h []=_
    rw[Z7 (A2s T _) c [] [] _ _ ok (fun _ _ _=>rfl) (A2s T _),Aw4]
    rfl
end Go.Ev

namespace Go.Ev
noncomputable section
inductive Hk where
 | no
 | here (X:CD)
 | two (a b:Hk)
abbrev Hk.l(H:Hk):Hk:=match H with | .two a _=>a|_=>.no
abbrev Hk.r(H:Hk):Hk:=match H with | .two _ b=>b|_=>.no
section
variable (T:D7)(call callV round:Ac)(fuel n:Nat)(ret:CD)
abbrev Ll(H:Hk):Code->Akn->CD->CD:=
 @Hk.rec (fun _=>Code->Akn->CD->CD) (fun c env k=>Fq T call callV round fuel n ret c env k) (fun X _ _ _=>X)
  (fun _ _ a b c env k=>match c with
   | .seq x y=>a x env (b y env k)
   | .cond v x y=>fun ρ h=>match C7 ρ v with|some e=>D8 e (a x env k ρ h) (b y env k ρ h)|none=>none
   | .block id x=>a x ((id,k)::env) k
   | c=>Fq T call callV round fuel n ret c env k) H
abbrev atH(p:List Bool):Hk->Code->Akn->CD->CD:=
 @List.rec Bool (fun _=>Hk->Code->Akn->CD->CD) (fun _ c env k=>Fq T call callV round fuel n ret c env k)
  (fun s _ ih H c env k=>match c with
   | .seq x y=>Ar s (ih H.r y env k) (ih H.l x env (Ll T call callV round fuel n ret H.r y env k))
   | .cond _ x y=>Ar s (ih H.r y env k) (ih H.l x env k)
   | .block id x=>ih H.l x ((id,k)::env) k
   | c=>Fq T call callV round fuel n ret c env k) p
end
abbrev Ato(p:List Bool)(X:CD):Hk->Hk:=
 @List.rec Bool (fun _=>Hk->Hk) (fun _=>.here X) (fun s _ ih H=>Ar s (.two H.l (ih H.r)) (.two (ih H.l) H.r)) p
def Alk(p:List Bool):Hk->Code->Bool:=
 @List.rec Bool (fun _=>Hk->Code->Bool) (fun H _=>match H with | .no=>true|_=>false)
  (fun s _ ih H c=>match H with
   | .here _=>false
   | H=>match c with
    | .seq x y=>Ar s (ih H.r y) (ih H.l x)
    | .cond _ x y=>Ar s (ih H.r y) (ih H.l x)
    | .block _ x=>Ar s false (ih H.l x)
    | _=>false) p
def Bax(p:List Bool):Code->Code:=
 @List.rec Bool (fun _=>Code->Code) (fun c=>c) (fun s _ ih c=>match c with
  | .seq x y=>Ar s (ih y) (ih x)
  | .cond _ x y=>Ar s (ih y) (ih x)
  | .block _ x=>ih x
  | .loop x=>ih x
  | c=>c) p
abbrev Aiu(T:D7)(g:Nat):Code:=match T.fn g with|some { body:=some c,.. }=>c|_=>.skip
abbrev nOf(T:D7)(g:Nat):Nat:=match T.fn g with|some f=>f.ntmps|_=>0
abbrev Eg(T:D7)(g:Nat):CD:=match T.fn g with|some f=>A1y T f.results.toList|_=>fun _ _=>none
abbrev u0:VS:=fun _=>.tuple []
abbrev Ph(T:D7)(g:Nat)(p:List Bool):Code:=match Bax p (Aiu T g) with | .loop c=>c|c=>c
end
section
variable {T:D7}{call callV round:Ac}{fuel n:Nat}{ret:CD}
theorem Ayn(H:Hk)(hn:∀ X,H ≠ .here X)(c:Code)(env:Akn)(k:CD):Ll T call callV round fuel n ret H c env k=Ll T call callV round fuel n ret (.two H.l H.r) c env k:=by
 cases H with
 | no=>cases c <;> rfl
 | here X=>exact(hn X rfl).elim
 | two a b=>rfl
theorem Us(X:CD):∀ (p:List Bool) (H:Hk) (c:Code) (env:Akn) (k:CD),Alk p H c=true->atH T call callV round fuel n ret p H c env k=X->Ll T call callV round fuel n ret H c env k=Ll T call callV round fuel n ret (Ato p X H) c env k
 | [],H,c,env,k,hf,e=>by
  cases H with
  | no=>exact e
  | here _=>cases hf
  | two _ _=>cases hf
 | s::p,H,c,env,k,hf,e=>by
  have hn:∀ Y,H ≠ .here Y:=fun Y y=>by subst y;cases hf
  have hs:Ato (s::p) X H=Ar s (.two H.l (Ato p X H.r)) (.two (Ato p X H.l) H.r):=rfl
  rw[Ayn H hn,hs]
  have hc:∃ x y id v,c=.seq x y\/c=.cond v x y\/c=.block id x:=by
   cases H with
   | here Y=>exact(hn Y rfl).elim
   | no=>cases c <;> first|exact⟨_,_,0,default,.inl rfl⟩|exact⟨_,_,0,_,.inr (.inl rfl)⟩|exact⟨_,.skip,_,default,.inr (.inr rfl)⟩|cases hf
   | two a b=>cases c <;> first|exact⟨_,_,0,default,.inl rfl⟩|exact⟨_,_,0,_,.inr (.inl rfl)⟩|exact⟨_,.skip,_,default,.inr (.inr rfl)⟩|cases hf
  obtain⟨x,y,id,v,rfl|rfl|rfl⟩:=hc
  ·have hf':Ar s (Alk p H.r y) (Alk p H.l x)=true:=by cases H <;> first|exact hf|exact(hn _ rfl).elim
   have e':Ar s (atH T call callV round fuel n ret p H.r y env k) (atH T call callV round fuel n ret p H.l x env (Ll T call callV round fuel n ret H.r y env k))=X:=e
   cases s with
   | true=>show Ll T call callV round fuel n ret H.l x env (Ll T call callV round fuel n ret H.r y env k)=Ll T call callV round fuel n ret H.l x env (Ll T call callV round fuel n ret (Ato p X H.r) y env k);rw[Us X p H.r y env k hf' e']
   | false=>exact Us X p H.l x env _ hf' e'
  ·have hf':Ar s (Alk p H.r y) (Alk p H.l x)=true:=by cases H <;> first|exact hf|exact(hn _ rfl).elim
   have e':Ar s (atH T call callV round fuel n ret p H.r y env k) (atH T call callV round fuel n ret p H.l x env k)=X:=e
   cases s with
   | true=>
    show (fun ρ h=>match C7 ρ v with|some e=>D8 e (Ll T call callV round fuel n ret H.l x env k ρ h) (Ll T call callV round fuel n ret H.r y env k ρ h)|none=>none)=fun ρ h=>match C7 ρ v with|some e=>D8 e (Ll T call callV round fuel n ret H.l x env k ρ h) (Ll T call callV round fuel n ret (Ato p X H.r) y env k ρ h)|none=>none
    rw[Us X p H.r y env k hf' e']
   | false=>
    show (fun ρ h=>match C7 ρ v with|some e=>D8 e (Ll T call callV round fuel n ret H.l x env k ρ h) (Ll T call callV round fuel n ret H.r y env k ρ h)|none=>none)=fun ρ h=>match C7 ρ v with|some e=>D8 e (Ll T call callV round fuel n ret (Ato p X H.l) x env k ρ h) (Ll T call callV round fuel n ret H.r y env k ρ h)|none=>none
    rw[Us X p H.l x env k hf' e']
  ·have hf':Ar s false (Alk p H.l x)=true:=by cases H <;> first|exact hf|exact(hn _ rfl).elim
   cases s with
   | true=>cases hf'
   | false=>exact Us X p H.l x _ k hf' e
theorem cut(p:List Bool){H:Hk}{c:Code}{env:Akn}{k X Y Z:CD}(e:Y=X)(hf:Alk p H c=true)(ha:atH T call callV round fuel n ret p H c env k=Y)(rest:Ll T call callV round fuel n ret (Ato p X H) c env k=Z):
 Ll T call callV round fuel n ret H c env k=Z:=(Us X p H c env k hf (ha.trans e)).trans rest
theorem Cj {B:CD->CD}{E:Nat->CD}(h0:E 0=fun _ _=>none)(hs:∀ m,B (E m)=E (m+1)):∀ m,G2 B m=E m
 | 0=>h0.symm
 | m+1=>by
  show B (G2 B m)=_
  rw[Cj h0 hs m,hs]
theorem A7f {c:Code}{env:Akn}{E Bd:Nat->CD}(h0:E 0=fun _ _=>none)(h1:∀ m,Ll T call callV round fuel n ret .no c env (E m)=Bd m)(h2:∀ m,Bd m=E (m+1))(m:Nat):G2 (fun ih=>Fq T call callV round fuel n ret c env ih) m=E m:=
 Cj (B:=fun ih=>Fq T call callV round fuel n ret c env ih) h0 (fun m=>(h1 m).trans (h2 m)) m
theorem Pm {A B:CD}(e:∀ ρ h,A ρ h=B ρ h):A=B:=funext fun ρ=>funext fun h=>e ρ h
end
noncomputable section
abbrev w0(g:Nat)(f:Aa->R)(c:Ac):Ac:=fun g' xs h=>Ar (Nat.beq g g') (@List.rec EV (fun _=>R) (f h) (fun _ _ _=>c g' xs h) xs) (c g' xs h)
abbrev w1(g:Nat)(f:EV->Aa->R)(c:Ac):Ac:=fun g' xs h=>Ar (Nat.beq g g') (match xs with | [a]=>f a h|xs=>c g' xs h) (c g' xs h)
abbrev w2(g:Nat)(f:EV->EV->Aa->R)(c:Ac):Ac:=fun g' xs h=>Ar (Nat.beq g g') (match xs with | [a,b]=>f a b h|xs=>c g' xs h) (c g' xs h)
abbrev w3(g:Nat)(f:EV->EV->EV->Aa->R)(c:Ac):Ac:=fun g' xs h=>Ar (Nat.beq g g') (match xs with | [a,b,d]=>f a b d h|xs=>c g' xs h) (c g' xs h)
abbrev w4(g:Nat)(f:EV->EV->EV->EV->Aa->R)(c:Ac):Ac:=fun g' xs h=>Ar (Nat.beq g g') (match xs with | [a,b,d,e]=>f a b d e h|xs=>c g' xs h) (c g' xs h)
abbrev w5(g:Nat)(f:EV->EV->EV->EV->EV->Aa->R)(c:Ac):Ac:=fun g' xs h=>Ar (Nat.beq g g') (match xs with | [a,b,d,e,i]=>f a b d e i h|xs=>c g' xs h) (c g' xs h)
end
section
variable {c x:Ac}{g:Nat}
theorem W0 {f:Aa->R}(e:∀ h,c g [] h=f h)(y:c=x):c=w0 g f x:=by
 subst y;funext g' xs h;show _=Ar (Nat.beq g g') _ _
 cases hb:Nat.beq g g' with
 | false=>rfl
 | true=>have:=Nat.eq_of_beq_eq_true hb;subst this;cases xs <;> first|exact e h|rfl
theorem W1 {f:EV->Aa->R}(e:∀ a h,c g [a] h=f a h)(y:c=x):c=w1 g f x:=by
 subst y;funext g' xs h;show _=Ar (Nat.beq g g') _ _
 cases hb:Nat.beq g g' with
 | false=>rfl
 | true=>have:=Nat.eq_of_beq_eq_true hb;subst this;show c g xs h=(match xs with | [a]=>f a h|xs=>c g xs h);split <;> first|exact e _ h|rfl
theorem W2 {f:EV->EV->Aa->R}(e:∀ a b h,c g [a,b] h=f a b h)(y:c=x):c=w2 g f x:=by
 subst y;funext g' xs h;show _=Ar (Nat.beq g g') _ _
 cases hb:Nat.beq g g' with
 | false=>rfl
 | true=>have:=Nat.eq_of_beq_eq_true hb;subst this;show c g xs h=(match xs with | [a,b]=>f a b h|xs=>c g xs h);split <;> first|exact e _ _ h|rfl
theorem W3 {f:EV->EV->EV->Aa->R}(e:∀ a b d h,c g [a,b,d] h=f a b d h)(y:c=x):c=w3 g f x:=by
 subst y;funext g' xs h;show _=Ar (Nat.beq g g') _ _
 cases hb:Nat.beq g g' with
 | false=>rfl
 | true=>have:=Nat.eq_of_beq_eq_true hb;subst this;show c g xs h=(match xs with | [a,b,d]=>f a b d h|xs=>c g xs h);split <;> first|exact e _ _ _ h|rfl
theorem W4 {f:EV->EV->EV->EV->Aa->R}(e:∀ a b d i h,c g [a,b,d,i] h=f a b d i h)(y:c=x):c=w4 g f x:=by
 subst y;funext g' xs h;show _=Ar (Nat.beq g g') _ _
 cases hb:Nat.beq g g' with
 | false=>rfl
 | true=>have:=Nat.eq_of_beq_eq_true hb;subst this;show c g xs h=(match xs with | [a,b,d,e]=>f a b d e h|xs=>c g xs h);split <;> first|exact e _ _ _ _ h|rfl
end
noncomputable def A6v(T:D7)(g n:Nat):Bool:=Ar (okF T g) (Nat.ble n (nOf T g)) false
theorem Ay6 {T:D7}{c r:Ac}{K g:Nat}{args:List EV}(hk:A6v T g (K9 args)=true)(h:Aa):Adq T c r K g args h=Ll T c c r K (nOf T g) (Eg T g) .no (Aiu T g) [] (Eg T g) (Am3 args 0 u0) h:=by
 obtain⟨h1,h2⟩:=Qq hk
 rw[A6d h1]
 unfold okF at h1
 unfold nOf at h2
 unfold A6n nOf Eg Aiu
 cases hf:T.fn g with
 | none=>rw[hf]at h1;try cases h1
 | some fn=>
  rw[hf]at h1 h2
  obtain⟨name,origin,targs,params,rts,nfree,n,results,body,nr,ours,file,el,ln,met,tn⟩:=fn
  cases body with
  | none=>cases h1
  | some c0=>
   show Ar (Nat.ble (K9 args) n) _ none=_
   rw[show Nat.ble (K9 args) n=true from h2]
   rfl
end Go.Ev
