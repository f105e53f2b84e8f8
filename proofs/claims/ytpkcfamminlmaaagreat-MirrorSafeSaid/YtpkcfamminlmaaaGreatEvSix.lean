import Derived.Test.YtpkcfamminlmaaaGreatEvFive
set_option linter.unusedVariables false
set_option linter.unusedSimpArgs false
set_option linter.unusedSectionVars false
namespace Go.Ev
noncomputable section
def Ai3(h:Aa)(i:Nat):Option Cs:=Ge (pathOf i) h.t
end
end Go.Ev

namespace Go.Ev
theorem Ur(tm:Ai)(j i:Nat)(v:EV):tmp (tm.put j (some v)) i=if j=i then v else tmp tm i:=by
 unfold tmp;rw[Tr.get_put];by_cases h:j=i <;> simp[h]
theorem H0 {k:Ai->Option EV}{i:Nat}(h:k=Ge (pathOf i))(tm:Ai):gO k tm=tmp tm i:=by
 subst h;exact Abc tm i
theorem H2 {p:PF}{i:Nat}(h:p=Nt (pathOf i))(v:Option EV)(tm:Ai):p v tm=tm.put i v:=by
 subst h;exact Aj0 tm i v
noncomputable def Ay(v:EV)(w:Bool):Bool:=match v with | .bool b=>As b w (Adh w)|_=>false
theorem Ch {k:Ai->Option EV}{i:Nat}(h:k=Ge (pathOf i))(w:Bool)(tm:Ai):C8 k w tm=Ay (tmp tm i) w:=by
 subst h
 unfold C8 Ay tmp
 rw[Aml]
 cases tm.get i with
 | none=>rfl
 | some v=>cases v <;> rfl
abbrev I(n:Int):EV:=.int .i64 n
abbrev N(n:Nat):EV:=.int .i64 (.ofNat n)
theorem Aiq(a b:Int):ltI a b=decide (a<b):=by
 rw[Ayw]
 cases a <;> cases b <;> simp only[ltB]
 ·rename_i a b;rw[Bool.eq_iff_iff,decide_eq_true_iff];simp[Nat.ble_eq];omega
 ·rename_i a b;symm;rw[decide_eq_false_iff_not];simp only[Int.ofNat_eq_natCast];omega
 ·rename_i a b;symm;rw[decide_eq_true_iff];simp only[Int.ofNat_eq_natCast];omega
 ·rename_i a b;rw[Bool.eq_iff_iff,decide_eq_true_iff];simp[Nat.ble_eq];omega
theorem Asr(a b:Int):eqI a b=decide (a=b):=by
 rw[A5c]
 cases a <;> cases b <;> simp only[eqB]
 ·rw[Bool.eq_iff_iff,decide_eq_true_iff];simp[Nat.beq_eq];omega
 ·simp
 ·simp
 ·rw[Bool.eq_iff_iff,decide_eq_true_iff];simp[Nat.beq_eq]
theorem Ais(p:Prop)[Decidable p]:Adh (decide p)=decide (¬ p):=by by_cases h:p <;> simp[h,Adh]
theorem A06(a b:Int):A60 a b=a+b:=Ay8 a b
theorem Aws(a b:Int):A6q a b=a-b:=Azn a b
theorem Aqt {n:Int}(h1 : -9223372036854775808<=n)(h2:n<9223372036854775808):Cv .i64 n=n:=by
 unfold Cv
 split
 ·rename_i m
  have:Nat.ble (Nat.succ m) (lid .i64)=true:=Nat.ble_eq_true_of_le (show m+1<=9223372036854775808 by simp only[Int.ofNat_eq_natCast]at h2;omega)
  rw[this,Ak]
 ·rename_i m
  have:Nat.ble (Nat.succ m) (floor .i64)=true:=Nat.ble_eq_true_of_le (show m+1<=9223372036854775808 by simp only[Int.negSucc_eq]at h1;omega)
  rw[this,Ak]
theorem Ac(h:Aa)(o:Cs):(h.new o).get h.next=some o:=by rw[Aa.Jb,if_pos rfl]
theorem A4 {h:Aa}(o:Cs){i:Nat}(hi:i<h.next):(h.new o).get i=h.get i:=by rw[Aa.Jb,if_neg (by omega)]
theorem Ah(h:Aa)(i:Nat)(o:Cs):(h.put i o).get i=some o:=by rw[Aa.get_put,if_pos rfl]
theorem Aq {h:Aa}{i j:Nat}(o:Cs)(hi:i ≠ j):(h.put i o).get j=h.get j:=by rw[Aa.get_put,if_neg hi]
theorem Aw1 {h:Aa}{i j:Nat}(hi:i ≠ j):(h.del i).get j=h.get j:=by rw[Aa.Tf,if_neg hi]
theorem A61 {α:Type}(p:Prop)[Decidable p](x y:α):As (decide p) x y=if p then x else y:=by by_cases h:p <;> simp[h]
end Go.Ev


namespace Go.Ev
theorem Axp {l:List EV}{n:Nat}(h:n<=l.length):takeN l n=some (l.take n):=by
 induction l generalizing n with
 | nil=>
  have:n=0:=by simpa using h
  subst this;rfl
 | cons a r ih=>
  cases n with
  | zero=>rfl
  | succ n=>
   simp only[takeN]
   rw[show Nat.beq (n+1) 0=false from rfl,Ax,Nat.pred_succ,ih (by simpa using h)]
   rfl
theorem Ff {l:List EV}{off n:Nat}(h:off+n<=l.length):Of l off n=some ((l.drop off).take n):=by
 rw[Re,Nh,Axp (by rw[List.length_drop];omega)]
theorem Aii:∀ (l:List EV) (n:Nat),Akz l n=l[n]?
 | [],n=>rfl
 | a::r,0=>rfl
 | a::r,n+1=>by
  have e:Akz (a::r) (n+1)=Akz r n:=rfl
  rw[e,Aii r n];simp
theorem Arl(v:EV):∀ (l:List EV) (n:Nat),n<l.length->Ni l n [v]=some (l.set n v)
 | [],n,h=>by simp at h
 | a::r,n,h=>by
  rw[Uo]
  cases n with
  | zero=>cases r <;> rfl
  | succ n=>
   have e:Fh (a::r) (n+1) [v]=(match Fh r n [v] with|some x=>some (a::x)|none=>none):=rfl
   rw[e,<-Uo,Arl v r n (by simpa using h)]
   rfl
theorem Bf(l:List EV):Gx l=l.length:=by rw[Ya,Qi]
theorem Bb {l vs:List EV}(h:l.length=vs.length):Ni l 0 vs=some vs:=by
 unfold Ni
 rw[Bf,Bf,h,show Nat.beq 0 0=true from rfl,Ak,show Nat.beq vs.length vs.length=true from Nat.beq_refl _,Ak]
section
variable {e a x:EF}{k:KF}{tm:Ai}{h h':Aa}{ds:List Nat}{i off n:Nat}{l:List EV}{v:EV}
end
noncomputable section
def Agt(x:Option Cs)(off n:Nat):Option (List EV):=V3 (fun l o=>Of l o n) off x
def An(g:IG)(f:EV->EV->Option EV)(x y:EV)(k:EV->R):R:=
 match x,y with
 | .int c x,.int c' y=>As (Nat.beq (Mz c) (Mz c')) (k (g c x y)) none
 | x,y=>oB k (f x y)
def Al(x:EV)(h:Aa)(k:EV->R):R:=Lm (fun i off=>oB (fun l=>match l with | [v]=>k v|_=>none) (Agt (h.get i) off 1)) x
def Ca(n:Nat)(x:EV)(h:Aa)(k:EV->R):R:=Lm (fun i off=>oB (fun l=>k (.agg l)) (Agt (h.get i) off n)) x
def D5(n:Nat)(a v:EV)(h:Aa)(k:Aa->R):R:=Lm (fun i off=>As v.plain (As (Nat.beq (Gx v.cells) n) (V8 h i (fun l=>Ni l off v.cells) k) none) none) a
def It(s:Nat)(x ix:EV)(k:EV->R):R:=Axr (fun j=>match x with | .slice i off len _ _=>As (Nat.ble (Nat.succ j) len) (k (.ptr i (Nat.add off (Nat.mul j s)))) none|_=>none) ix
end
section
variable {e a b x ix:EF}{k:KF}{c1 c2:CF}{tm:Ai}{h:Aa}{ds:List Nat}{n m s:Nat}{g:IG}{f:EV->EV->Option EV}
theorem A66(c:IntKind)(a b:Int):Hl c a b=.bool (ltI a b):=rfl
theorem A7k(c:IntKind)(a b:Int):Aei c a b=.bool (Adh (ltI b a)):=rfl
theorem A7n(c:IntKind)(a b:Int):Ww c a b=.bool (ltI b a):=rfl
theorem A7d(c:IntKind)(a b:Int):Zu c a b=.bool (Adh (ltI a b)):=rfl
theorem A76(c:IntKind)(a b:Int):Fj c a b=.bool (eqI a b):=rfl
theorem Ay1(c:IntKind)(a b:Int):Gv c a b=.bool (Adh (eqI a b)):=rfl
theorem A6m(c:IntKind)(a b:Int):Hw c a b=.int c (Cv c (A60 a b)):=rfl
theorem A9o:Adh true=false:=rfl
theorem Aq3:Y8 e k tm h ds=Al (e tm) h (fun v=>k v tm h ds):=by
 unfold Y8 Al Lm
 cases e tm <;> try rfl
 rename_i i off
 simp only
 have key:∀ (L:List EV) (o:Nat),oB (fun v=>k v tm h ds) (Akz L o)=oB (fun l=>match l with | [v]=>k v tm h ds|_=>none) (Of L o 1):=by
  intro L o
  rw[Aii,<-List.head?_drop,Re,Nh]
  cases L.drop o with
  | nil=>rfl
  | cons b r=>cases r <;> rfl
 unfold Agt V3
 cases h.get i with
 | none=>rfl
 | some x=>
  cases x <;> try rfl
  ·exact key _ _
  ·exact key _ _
  ·rename_i ws r0
   simp only
   cases Afg ws off with
   | none=>rfl
   | some x=>exact key _ _
theorem Aro:Ash n e k tm h ds=Ca n (e tm) h (fun v=>k v tm h ds):=by
 unfold Ash Ca Lm
 cases e tm <;> try rfl
 rename_i i off
 simp only
 unfold Agt V3
 cases h.get i with
 | none=>rfl
 | some x=>
  cases x <;> try rfl
  rename_i ws r0
  simp only
  cases Afg ws off <;> rfl
theorem Apu {i:Nat}{l:List EV}{t:TypeId}(hg:h.get i=some (.cells l t))(F:List EV->Option (List EV))(k:Aa->R):V8 h i F k=oB (fun l'=>k (h.put i (.cells l' t))) (F l):=by
 unfold V8;rw[hg]
theorem Are:Apl s e ix k tm h ds=It s (e tm) (ix tm) (fun v=>k v tm h ds):=by
 unfold Apl It
 cases e tm <;> rfl
theorem A7r {q off ln rm:Nat}{op:Bool}{j:Nat}(hj:j<ln)(k:EV->R)(c:IntKind):It s (.slice q off ln rm op) (.int c (.ofNat j)) k=k (.ptr q (off+j*s)):=by
 show As (Nat.ble (Nat.succ j) ln) _ none=_
 rw[Nat.ble_eq_true_of_le hj,Ak];rfl
theorem Axa(c:CF->CF)(m:Nat):Ala c (m+1)=c (Ala c m):=rfl
end
end Go.Ev

namespace Go.Ev
def Has(h:Aa)(l:List (Nat × Cs)):Prop:=∀ x ∈ l,h.get x.1=some x.2/\x.1<h.next
theorem Has.nil(h:Aa):Has h []:=fun _ hx=>by cases hx
section
variable {T:Et}{call round:Ad}{K:Nat}
theorem Ajj {disp:Nat->Option FT}{g:Nat}{F:FT}(h:disp g=some F)(d:Nat)(args:List EV)(hp:Aa):
 Ae T disp K (d+1) false g args hp=F (Ae T disp K d false) (Ae T disp K d true) K args hp:=by
 have e:Ae T disp K (d+1) false g args hp = @Option.rec FT (fun _=>FnT) (Ag4 T (Ae T disp K d false) (Ae T disp K d true) K g) (fun F=>F (Ae T disp K d false) (Ae T disp K d true) K) (disp g) args hp:=rfl
 rw[e,h]
theorem Ald(disp:Nat->Option FT)(d l:Nat)(args:List EV)(hp:Aa):
 Ae T disp K (d+1) true l args hp=Ahx T (Ae T disp K d false) (Ae T disp K d true) K l args hp:=rfl
theorem Azc {n:Nat}{c:CF}{args:List EV}(hn:args.length<=n)(h:Aa):A1n n c args h=c (setArgs args 0 .nil) h []:=by
 unfold A1n
 rw[Bf,Nat.ble_eq_true_of_le hn,Ak,Ae6]
variable {g n i t:Nat}{out:Nat->CF}{env:Env}{ret k:CF}{tm:Ai}{h:Aa}{ds:List Nat}
end
end Go.Ev

namespace Go.Ev
set_option maxRecDepth 100000
noncomputable section
def Bk(c a b:EV)(k:EV->R):R:=onB (k a) (k b) c
def Lt(f:EV->EV->Option EV)(a b:EV)(k:EV->R):R:=oB k (f a b)
def Q1(v:EV)(k:EV->R):R:=onB (k (.bool false)) (k (.bool true)) v
def Asq(v:EV)(k:EV->R):R:=match v with | .int c n=>k (.int c (Cv c (Int.sub 0 n)))|_=>none
def A7(v:EV)(k:EV->R):R:=Lm (fun i o=>k (.ptr i o)) v
def Am(c:Nat)(v:EV)(k:EV->R):R:=Lm (fun i o=>k (.ptr i (Nat.add o c))) v
def Adg(len s:Nat)(v ix:EV)(k:EV->R):R:=Axr (fun j=>Lm (fun i off=>As (Nat.ble (Nat.succ j) len) (k (.ptr i (Nat.add off (Nat.mul j s)))) none) v) ix
def Ayx(len s:Nat)(agg:Bool)(n:Nat)(v ix:EV)(k:EV->R):R:=Axr (fun j=>Av5 (fun cs=>As (Nat.ble (Nat.succ j) len) (Aqv agg n cs (Nat.mul j s) k) none) v) ix
def Ag3(off:Nat)(agg:Bool)(n:Nat)(v:EV)(k:EV->R):R:=Av5 (fun cs=>Aqv agg n cs off k) v
def My(c:IntKind)(v:EV)(k:EV->R):R:=A6f (fun _ n=>k (.int c (Cv c n))) v
def Bv(ix:Nat)(v:EV)(k:EV->R):R:=A4z (fun l=>oB k (Akz l ix)) v
def Hj(o:Cs)(h:Aa)(k:EV->Aa->R):R:=k (.ptr h.next 0) (h.new o)
def Ea(t:TypeId)(v:EV)(h:Aa)(k:EV->Aa->R):R:=As v.plain (k (.ptr h.next 0) (h.new (.cells v.cells t))) none
def Hg(v:EV)(k:EV->R):R:=oB (fun n=>k (.int .i64 (.ofNat n))) (lenOf v)
def Aj(x:R)(k:EV->Aa->R):R:=oB (Aiy k) x
def Y6(c r:Ad)(f:EV)(args:List EV)(h:Aa):R:=match f with
 | .func g a cs=>c g (Axm a (Axm args cs)) h
 | .Y5 l=>r l args h
 | _=>none
def Bu(place:Nat->Option (Nat × Nat))(z:List EV)(ps:List (Nat × EV))(k:EV->R):R:=oB (fun c=>k (.agg c)) (V2 place ps z)
def Aig(n:Nat)(v:EV)(k:EV->R):R:=match v with | .slice i off len _ _=>As (Nat.ble n len) (k (.ptr i off)) none|_=>none
def R9(s:Nat)(v:EV)(lo hi mx:Option EV)(k:EV->R):R:=oB k (slc v s lo hi mx)
def Mu(n s:Nat)(v:EV)(lo hi mx:Option EV)(k:EV->R):R:=Lm (fun i off=>oB k (slc (.slice i off n n false) s lo hi mx)) v
def Abv(z:List EV)(e:TypeId)(l c:EV)(h:Aa):R:=Acp z e (fun _=>l) (fun _=>c) .nil h
def B1(z:List EV)(e:TypeId)(s n:Nat)(ps:List (Nat × EV))(h:Aa):R:=Uc z e s n (fun _=>ps) .nil h
def Ai6(h:Aa):R:=some (.map h.next,h.new (.map []))
def Afw(s:EV)(h:Aa):R:=Afo (fun _=>s) .nil h
def Ai9(T:Et)(kt e:TypeId)(ok:Bool)(m ix:EV)(h:Aa):R:=Amj T kt e ok (fun _=>m) (fun _=>ix) .nil h
def W6(T:Et)(kt:TypeId)(m ix x:EV)(h:Aa):R:=Ab6 T kt (fun _=>m) (fun _=>ix) (fun _=>x) .nil h
def Aol(c x:EV)(h:Aa):R:=Arf (fun _=>c) (fun _=>x) .nil h
def Ao7(z:EV)(c:EV)(h:Aa):R:=Aq0 z (fun _=>c) .nil h
def Ar0(c:EV)(h:Aa):R:=Asf (fun _=>c) .nil h
def De(v:EV)(x y:R):R:=onB x y v
inductive RV where
 | v (x:EV)
 | c (a:EV) (t:TypeId)
def Ajw(tm:Ai):ResultVar->RV
 | .tmp t=>.v (tmp tm t)
 | .cell a t=>.c (tmp tm a) t
def Aok(T:Et)(h:Aa):List RV->Option (List EV)
 | []=>some []
 | .v x::r=>match Aok T h r with|some l=>some (x::l)|none=>none
 | .c a t::r=>match a,Aok T h r,T.size t with
  | .ptr i off,some l,some n=>match Gs h i off n with
   | some cs=>match T.agg t with
    | some true=>some (.agg cs::l)
    | some false=>(match cs with | [v]=>some (v::l)|_=>none)
    | none=>none
   | none=>none
  | _,_,_=>none
def Cx(T:Et)(l:List RV)(h:Aa):R:=match Aok T h l with|some [v]=>some (v,h)|some l=>some (.tuple l,h)|none=>none
def Asz(l:Nat)(v:Bool)(st:LoopState)(jump:Option Code)(h:Aa):R:=B3 l v st jump .nil h []
def Ga(l:Nat)(h:Aa)(k:Aa->R):R:=match h.get l with
 | some (.loop .ready p f n' tm' ps asg body d)=>k (h.put l (.loop .busy p f n' tm' ps asg body d))
 | _=>none
def A7x(l:Nat)(r:R)(k:Aa->R)(ex:Nat->Aa->R)(ret:Aa->R):R:=match r with
 | none=>none
 | some (_,h)=>match h.get l with
  | some (.loop st p f n' tm' ps asg body d)=>match st with
   | .busy=>none
   | _=>match p with
    | none=>k (h.put l (.loop .exhausted p f n' tm' ps asg body d))
    | some (.exit id)=>ex id (h.put l (.loop .exhausted p f n' tm' ps asg body d))
    | some .ret=>ret (h.put l (.loop .exhausted p f n' tm' ps asg body d))
    | some _=>none
  | _=>none
def Aeu(c:Ad)(T:Et)(g n i:Nat)(f:EV)(tm:Ai)(h:Aa)(ds:List Nat)(k:Aa->List Nat->R)(ex:Nat->Aa->List Nat->R)(ret:Aa->List Nat->R):R:=match f with
 | .func q first captured=>A7x (Nat.succ h.next) (c q (first++(.Y5 (Nat.succ h.next)::captured)) ((h.new (.deferred true)).new (.loop .ready none g n tm (Eo T g i).2.1 (Eo T g i).2.2.1 (Eo T g i).2.2.2 h.next)))
  (fun h'=>k h' (h.next::ds)) (fun id h'=>ex id h' (h.next::ds)) (fun h'=>ret h' (h.next::ds))
 | _=>none
def Amz(c:Ad)(T:Et)(g n i l0:Nat)(f:EV)(tm:Ai)(h:Aa)(ds:List Nat)(k:Aa->List Nat->R)(ex:Nat->Aa->List Nat->R)(ret:Aa->List Nat->R):R:=match f with
 | .func q first captured=>match h.get l0 with
  | some (.loop _ _ _ _ _ _ _ _ d)=>A7x h.next (c q (first++(.Y5 h.next::captured)) (h.new (.loop .ready none g n tm (Eo T g i).2.1 (Eo T g i).2.2.1 (Eo T g i).2.2.2 d)))
   (fun h'=>k h' ds) (fun id h'=>ex id h' ds) (fun h'=>ret h' ds)
  | _=>none
 | _=>none
def Fz(h:Aa)(k:Nat->DX->R):R:=k h.next ⟨0,[],[],[],[]⟩
def Bd(i b base:Nat)(x:EV)(s:DX)(k:DX->R):R:=Lm (fun q _=>As (Aen b base q s) (k (s.ld i q)) none) x
def Af0(i:Nat)(h:Aa)(s:DX)(k:DX->R):R:=k (s.new i h.next)
def Ad4(i b:Nat)(x:EV)(s:DX)(k:DX->R):R:=Lm (fun q _=>As (Ak7 b q s) (k (s.sto i q)) none) x
def Bal(h:Aa)(k:Aa->R):R:=k ⟨.nil,h.next,h.next⟩
def Ci(i b:Nat)(s:DX)(h:Aa)(call:Aa->R)(k:EV->Aa->DX->R):R:=As (Xy b s) (Aj (call (Ii b s h)) fun v h'=>Kk i b s h h' fun s h=>k v h s) none
end
section
variable {e a b x y ix lo':EF}{k:KF}{c1 c2:CF}{tm:Ai}{h:Aa}{ds:List Nat}{T:Et}{call round:Ad}
theorem Aox(place:Nat->Option (Nat × Nat))(z:List EV)(ps:Ai->List (Nat × EV)):Zg (Aou place z ps) k tm h ds=Bu place z (ps tm) (fun v=>k v tm h ds):=by
 unfold Zg Aou Bu
 cases V2 place (ps tm) z <;> rfl
theorem A5u:Zg (A5e e) k tm h ds=Asq (e tm) (fun v=>k v tm h ds):=by
 unfold Zg A5e Asq
 cases e tm <;> rfl
theorem Az9(n:Nat):Zg (Aun n e) k tm h ds=Aig n (e tm) (fun v=>k v tm h ds):=by
 unfold Zg Aun Aig
 cases e tm <;> try rfl
 rename_i i off len a b
 simp only
 cases Nat.ble n len <;> rfl
theorem Az8(n s:Nat)(lo hi mx:Ai->Option EV):Zg (Ajy n s e lo hi mx) k tm h ds=Mu n s (e tm) (lo tm) (hi tm) (mx tm) (fun v=>k v tm h ds):=by
 unfold Zg Ajy Mu Lm
 cases e tm <;> rfl
theorem Ans(xs:Ai->List EV):Aha call round e xs k tm h ds=Aj (Y6 call round (e tm) (xs tm) h) (fun v h=>k v tm h ds):=by
 unfold Aha Y6 Aj
 cases e tm <;> rfl
theorem A3s(res:List ResultVar):Aki T res tm h=Cx T (res.map (Ajw tm)) h:=by
 have hv:∀ l:List ResultVar,Ip T tm h l=Aok T h (l.map (Ajw tm)):=by
  intro l
  induction l with
  | nil=>rfl
  | cons a r ih=>
   cases a with
   | tmp t=>simp only[Ip,List.map_cons,Ajw,Aok,ih];rfl
   | cell a t=>
    simp only[Ip,List.map_cons,Ajw,Aok,ih]
    cases tmp tm a <;> rfl
 rw[Az5]
 unfold A10 Cx
 rw[hv]
 rfl
theorem A9f(res:List ResultVar):Al8 T res tm h ds=Gp ds h (fun h=>Cx T (res.map (Ajw tm)) h):=by
 have:Aki T res tm=fun h=>Cx T (res.map (Ajw tm)) h:=funext fun h=>A3s res
 show Gp ds h (Aki T res tm)=_
 rw[this]
theorem A3t {l:Nat}:Xb l c1 tm h ds=Ga l h (fun h=>c1 tm h ds):=by
 unfold Xb Ga
 cases h.get l with
 | none=>rfl
 | some o=>
  cases o <;> try rfl
theorem Ayu {l:Nat}{v:Bool}{st:LoopState}{j:Option Code}:B3 l v st j tm h ds=Asz l v st j h:=by
 unfold Asz B3
 rfl
theorem Av7 {g n i:Nat}{out:Nat->CF}{env:Env}{ret kk:CF}{o:Operand}(ho:(Eo T g i).1=o):Ak1 T call g n none i out env ret kk tm h ds =
 match Bn tm o with
 | some f=>Aeu call T g n i f tm h ds (fun h ds=>kk tm h ds) (fun id h ds=>Aqb out env id tm h ds) (fun h ds=>ret tm h ds)
 | none=>none:=by
 subst ho
 unfold Ak1 Akc
 cases Bn tm (Eo T g i).1 with
 | none=>rfl
 | some f=>
  cases f <;> rfl
theorem Aqu {g n i l0:Nat}{out:Nat->CF}{env:Env}{ret kk:CF}{o:Operand}(ho:(Eo T g i).1=o):Ak1 T call g n (some l0) i out env ret kk tm h ds =
 match Bn tm o with
 | some f=>Amz call T g n i l0 f tm h ds (fun h ds=>kk tm h ds) (fun id h ds=>Aqb out env id tm h ds) (fun h ds=>ret tm h ds)
 | none=>none:=by
 subst ho
 unfold Ak1 Akc
 cases Bn tm (Eo T g i).1 with
 | none=>rfl
 | some f=>
  cases f <;> rfl
theorem Apb(t:Nat):Bn tm (.tmp t)=some (tmp tm t):=rfl
theorem Ank(f:Nat):Bn tm (.func f)=some (.func f [] []):=rfl
theorem Avw(out:Nat->CF)(id:Nat):Aqb out [] id=out id:=rfl
theorem Ang {K l:Nat}{args:List EV}{st:LoopState}{p:Option Code}{f n:Nat}{tm tm':Ai}{ps:List Tmp}{asg body:Code}{d:Nat}(hg:h.get l=some (.loop st p f n tm ps asg body d))(hs:O2 ps args n tm=some tm'):
 Ahx T call round K l args h=Py T call round K f n (some l) (fun id=>B3 l false .done (some (.exit id))) (B3 l false .done (some .ret)) asg []
  (Xb l (Py T call round K f n (some l) (fun id=>B3 l false .done (some (.exit id))) (B3 l false .done (some .ret)) body [] (B3 l true .ready none))) tm' h []:=by
 unfold Ahx
 rw[hg]
 simp only
 rw[hs]
theorem lq {m n d:Nat}(h:n<=d)(e:Nat.ble m n=true):m<=d:=Nat.le_trans (Nat.le_of_ble_eq_true e) h
end
theorem dd:
 (∀ (e:EF) (p:PF) (c:CF) (tm:Ai) (h:Aa) (ds:List Nat),mv e p c tm h ds=c (p (some (e tm)) tm) h ds) /\
 (∀ (e:EF) (k:KF) (tm:Ai) (h:Aa) (ds:List Nat),A4v e k tm h ds=k (e tm) tm h ds) /\
 (∀ (p:PF) (c:CF) (v:EV) (tm:Ai) (h:Aa) (ds:List Nat),put p c v tm h ds=c (p (some v) tm) h ds) /\
 (∀ (c:CF) (v:EV) (tm:Ai) (h:Aa) (ds:List Nat),Azd c v tm h ds=c tm h ds) /\
 (∀ (v:EV) (tm:Ai),Afk v tm=v) /\
 (∀ (c a b:EF) (k:KF) (tm:Ai) (h:Aa) (ds:List Nat),A8k c a b k tm h ds=Bk (c tm) (a tm) (b tm) (fun v=>k v tm h ds)) /\
 (∀ (g:IG) (f:EV->EV->Option EV) (a b:EF) (k:KF) (tm:Ai) (h:Aa) (ds:List Nat),A04 g f a b k tm h ds=An g f (a tm) (b tm) (fun v=>k v tm h ds)) /\
 (∀ (f:EV->EV->Option EV) (a b:EF) (k:KF) (tm:Ai) (h:Aa) (ds:List Nat),Bbc f a b k tm h ds=Lt f (a tm) (b tm) (fun v=>k v tm h ds)) /\
 (∀ (e:EF) (k:KF) (tm:Ai) (h:Aa) (ds:List Nat),A8s e k tm h ds=Q1 (e tm) (fun v=>k v tm h ds)) /\
 (∀ (e:EF) (k:KF) (tm:Ai) (h:Aa) (ds:List Nat),A84 e k tm h ds=A7 (e tm) (fun v=>k v tm h ds)) /\
 (∀ (c:Nat) (e:EF) (k:KF) (tm:Ai) (h:Aa) (ds:List Nat),A8t c e k tm h ds=Am c (e tm) (fun v=>k v tm h ds)) /\
 (∀ (len s:Nat) (e ix:EF) (k:KF) (tm:Ai) (h:Aa) (ds:List Nat),A4i len s e ix k tm h ds=Adg len s (e tm) (ix tm) (fun v=>k v tm h ds)) /\
 (∀ (s:Nat) (e ix:EF) (k:KF) (tm:Ai) (h:Aa) (ds:List Nat),Apl s e ix k tm h ds=It s (e tm) (ix tm) (fun v=>k v tm h ds)) /\
 (∀ (len s:Nat) (agg:Bool) (n:Nat) (e ix:EF) (k:KF) (tm:Ai) (h:Aa) (ds:List Nat),A3m len s agg n e ix k tm h ds=Ayx len s agg n (e tm) (ix tm) (fun v=>k v tm h ds)) /\
 (∀ (off:Nat) (agg:Bool) (n:Nat) (e:EF) (k:KF) (tm:Ai) (h:Aa) (ds:List Nat),Ayf off agg n e k tm h ds=Ag3 off agg n (e tm) (fun v=>k v tm h ds)) /\
 (∀ (c:IntKind) (e:EF) (k:KF) (tm:Ai) (h:Aa) (ds:List Nat),A8e c e k tm h ds=My c (e tm) (fun v=>k v tm h ds)) /\
 (∀ (ix:Nat) (e:EF) (k:KF) (tm:Ai) (h:Aa) (ds:List Nat),A8o ix e k tm h ds=Bv ix (e tm) (fun v=>k v tm h ds)) /\
 (∀ (e:EF) (k:KF) (tm:Ai) (h:Aa) (ds:List Nat),Y8 e k tm h ds=Al (e tm) h (fun v=>k v tm h ds)) /\
 (∀ (n:Nat) (e:EF) (k:KF) (tm:Ai) (h:Aa) (ds:List Nat),Ash n e k tm h ds=Ca n (e tm) h (fun v=>k v tm h ds)) /\
 (∀ (n:Nat) (a x:EF) (k:KF) (tm:Ai) (h:Aa) (ds:List Nat),Aoy n a x k tm h ds=D5 n (a tm) (x tm) h (fun h=>k (.tuple []) tm h ds)) /\
 (∀ (z:List EV) (t:TypeId) (k:KF) (tm:Ai) (h:Aa) (ds:List Nat),Asm z t k tm h ds=Hj (.cells z t) h (fun v h=>k v tm h ds)) /\
 (∀ (t:TypeId) (e:EF) (k:KF) (tm:Ai) (h:Aa) (ds:List Nat),A67 t e k tm h ds=Ea t (e tm) h (fun v h=>k v tm h ds)) /\
 (∀ (e:EF) (k:KF) (tm:Ai) (h:Aa) (ds:List Nat),A88 e k tm h ds=Hg (e tm) (fun v=>k v tm h ds)) /\
 (∀ (call:Ad) (g:Nat) (xs:Ai->List EV) (k:KF) (tm:Ai) (h:Aa) (ds:List Nat),A0g call g xs k tm h ds=Aj (call g (xs tm) h) (fun v h=>k v tm h ds)) /\
 (∀ (call round:Ad) (e:EF) (xs:Ai->List EV) (k:KF) (tm:Ai) (h:Aa) (ds:List Nat),Aha call round e xs k tm h ds=Aj (Y6 call round (e tm) (xs tm) h) (fun v h=>k v tm h ds)) /\
 (∀ (e:TypeId) (size:Nat) (s x:EF) (k:KF) (tm:Ai) (h:Aa) (ds:List Nat),Lr (Azf e size s x) k tm h ds=Aj (Dt e size (s tm) (x tm) h) (fun v h=>k v tm h ds)) /\
 (∀ (T:Et) (b:Builtin) (ts:Array TypeId) (xs:Ai->List EV) (k:KF) (tm:Ai) (h:Aa) (ds:List Nat),Lr (Aiw T b ts xs) k tm h ds=Aj (builtin T b ts (xs tm) h) (fun v h=>k v tm h ds)) /\
 (∀ (z:List EV) (t:TypeId) (l c:EF) (k:KF) (tm:Ai) (h:Aa) (ds:List Nat),Lr (Acp z t l c) k tm h ds=Aj (Abv z t (l tm) (c tm) h) (fun v h=>k v tm h ds)) /\
 (∀ (z:List EV) (t:TypeId) (s n:Nat) (ps:Ai->List (Nat × EV)) (k:KF) (tm:Ai) (h:Aa) (ds:List Nat),Lr (Uc z t s n ps) k tm h ds=Aj (B1 z t s n (ps tm) h) (fun v h=>k v tm h ds)) /\
 (∀ (k:KF) (tm:Ai) (h:Aa) (ds:List Nat),Lr Aoc k tm h ds=Aj (Ai6 h) (fun v h=>k v tm h ds)) /\
 (∀ (s:EF) (k:KF) (tm:Ai) (h:Aa) (ds:List Nat),Lr (Afo s) k tm h ds=Aj (Afw (s tm) h) (fun v h=>k v tm h ds)) /\
 (∀ (T:Et) (kt t:TypeId) (ok:Bool) (m ix:EF) (k:KF) (tm:Ai) (h:Aa) (ds:List Nat),Lr (Amj T kt t ok m ix) k tm h ds=Aj (Ai9 T kt t ok (m tm) (ix tm) h) (fun v h=>k v tm h ds)) /\
 (∀ (T:Et) (kt:TypeId) (m ix x:EF) (k:KF) (tm:Ai) (h:Aa) (ds:List Nat),Lr (Ab6 T kt m ix x) k tm h ds=Aj (W6 T kt (m tm) (ix tm) (x tm) h) (fun v h=>k v tm h ds)) /\
 (∀ (c x:EF) (k:KF) (tm:Ai) (h:Aa) (ds:List Nat),Lr (Arf c x) k tm h ds=Aj (Aol (c tm) (x tm) h) (fun v h=>k v tm h ds)) /\
 (∀ (z:EV) (c:EF) (k:KF) (tm:Ai) (h:Aa) (ds:List Nat),Lr (Aq0 z c) k tm h ds=Aj (Ao7 z (c tm) h) (fun v h=>k v tm h ds)) /\
 (∀ (c:EF) (k:KF) (tm:Ai) (h:Aa) (ds:List Nat),Lr (Asf c) k tm h ds=Aj (Ar0 (c tm) h) (fun v h=>k v tm h ds)) /\
 (∀ (place:Nat->Option (Nat × Nat)) (z:List EV) (ps:Ai->List (Nat × EV)) (k:KF) (tm:Ai) (h:Aa) (ds:List Nat),Zg (Aou place z ps) k tm h ds=Bu place z (ps tm) (fun v=>k v tm h ds)) /\
 (∀ (f:Nat) (xs cs:Ai->List EV) (k:KF) (tm:Ai) (h:Aa) (ds:List Nat),Zg (Arq f xs cs) k tm h ds=k (.func f (xs tm) (cs tm)) tm h ds) /\
 (∀ (e:EF) (k:KF) (tm:Ai) (h:Aa) (ds:List Nat),Zg (A5e e) k tm h ds=Asq (e tm) (fun v=>k v tm h ds)) /\
 (∀ (n:Nat) (e:EF) (k:KF) (tm:Ai) (h:Aa) (ds:List Nat),Zg (Aun n e) k tm h ds=Aig n (e tm) (fun v=>k v tm h ds)) /\
 (∀ (n s:Nat) (e:EF) (lo hi mx:Ai->Option EV) (k:KF) (tm:Ai) (h:Aa) (ds:List Nat),Zg (Ajy n s e lo hi mx) k tm h ds=Mu n s (e tm) (lo tm) (hi tm) (mx tm) (fun v=>k v tm h ds)) /\
 (∀ (s:Nat) (e:EF) (lo hi mx:Ai->Option EV) (k:KF) (tm:Ai) (h:Aa) (ds:List Nat),Zg (Bae s e lo hi mx) k tm h ds=R9 s (e tm) (lo tm) (hi tm) (mx tm) (fun v=>k v tm h ds)) /\
 (∀ (w:Ai->Bool) (yes:CF) (no:KF) (tm:Ai) (h:Aa) (ds:List Nat),Afn w yes no tm h ds=As (w tm) (yes tm h ds) (no (.tuple []) tm h ds)) /\
 (∀ (w:Ai->Bool) (yes no:CF) (tm:Ai) (h:Aa) (ds:List Nat),A83 w yes no tm h ds=As (w tm) (yes tm h ds) (no tm h ds)) /\
 (∀ (e:EF) (a b:CF) (tm:Ai) (h:Aa) (ds:List Nat),Ane e a b tm h ds=De (e tm) (a tm h ds) (b tm h ds)) /\
 (∀ (tm:Ai) (h:Aa) (ds:List Nat),Dc tm h ds=none) /\
 (∀ (tm:Ai) (h:Aa) (ds:List Nat),A9x tm h ds=Gp ds h fun h=>some (.tuple [],h)) /\
 (∀ (p:EF) (tm:Ai) (h:Aa) (ds:List Nat),Bcg p tm h ds=Gp ds h fun h=>some (p tm,h)) /\
 (∀ (p q:EF) (tm:Ai) (h:Aa) (ds:List Nat),Bcm p q tm h ds=Gp ds h fun h=>some (.tuple [p tm,q tm],h)) /\
 (∀ (T:Et) (res:List ResultVar) (tm:Ai) (h:Aa) (ds:List Nat),Al8 T res tm h ds=Gp ds h (fun h=>Cx T (res.map (Ajw tm)) h)) /\
 (∀ (h:Aa) (k:Aa->R),Gp [] h k=k h) /\
 (∀ (l:Nat) (c:CF) (tm:Ai) (h:Aa) (ds:List Nat),Xb l c tm h ds=Ga l h (fun h=>c tm h ds)) /\
 (∀ (l:Nat) (v:Bool) (st:LoopState) (j:Option Code) (tm:Ai) (h:Aa) (ds:List Nat),B3 l v st j tm h ds=Asz l v st j h) /\
 (∀ (k:Nat->DX->CF) (tm:Ai) (h:Aa) (ds:List Nat),A8n k tm h ds=Fz h (fun base s=>k base s tm h ds)) /\
 (∀ (i b base:Nat) (e:EF) (s:DX) (k:DX->CF) (tm:Ai) (h:Aa) (ds:List Nat),A8f i b base e s k tm h ds=Bd i b base (e tm) s (fun s=>k s tm h ds)) /\
 (∀ (i:Nat) (s:DX) (k:DX->CF) (tm:Ai) (h:Aa) (ds:List Nat),Bap i s k tm h ds=Af0 i h s (fun s=>k s tm h ds)) /\
 (∀ (i b:Nat) (e:EF) (s:DX) (k:DX->CF) (tm:Ai) (h:Aa) (ds:List Nat),Ba1 i b e s k tm h ds=Ad4 i b (e tm) s (fun s=>k s tm h ds)) /\
 (∀ (o:OC) (k:KF) (tm:Ai) (h:Aa) (ds:List Nat),Bbn o k tm h ds=o (fun v tm _ ds=>k v tm h ds) tm ⟨.nil,h.next,h.next⟩ ds) /\
 (∀ (i b:Nat) (s:DX) (o:OC) (k:DX->KF) (tm:Ai) (h:Aa) (ds:List Nat),Bbo i b s o k tm h ds=As (Xy b s) (o (fun v tm h' ds=>Kk i b s h h' (fun s h=>k s v tm h ds)) tm (Ii b s h) ds) none) /\
 (∀ (h:Aa) (k:Aa->R),Bal h k=k ⟨.nil,h.next,h.next⟩) /\
 (∀ (i b:Nat) (s:DX) (h:Aa) (call:Aa->R) (k:EV->Aa->DX->R),Ci i b s h call k=As (Xy b s) (Aj (call (Ii b s h)) fun v h'=>Kk i b s h h' fun s h=>k v h s) none) /\
 (∀ (tm:Ai) (t:Nat),Ajw tm (.tmp t)=.v (tmp tm t))/\(∀ (tm:Ai) (a t:Nat),Ajw tm (.cell a t)=.c (tmp tm a) t) /\
 (∀ (tm:Ai) (j i:Nat) (v:EV),tmp (tm.put j (some v)) i=if j=i then v else tmp tm i) /\
 (∀ (t:Nat),tmp .nil t=.tuple []) /\
 (∀ (a:EV) (l:List EV) (i:Nat) (t:Tr EV),setArgs (a::l) i t=setArgs l (i+1) (t.put i (some a)))/\(∀ (b:Bool) (f g:CF) (tm:Ai) (h:Aa) (ds:List Nat),As b f g tm h ds=As b (f tm h ds) (g tm h ds))/\(∀ (i:Nat) (t:Tr EV),setArgs [] i t=t) /\
 (∀ (tm:Ai) (a:ResultVar) (l:List ResultVar),List.map (Ajw tm) (a::l)=Ajw tm a::List.map (Ajw tm) l)/\(∀ (tm:Ai),List.map (Ajw tm) [] = []):=
 ⟨fun _ _ _ _ _ _=>rfl,fun _ _ _ _ _=>rfl,fun _ _ _ _ _ _=>rfl,fun _ _ _ _ _=>rfl,fun _ _=>rfl,fun _ _ _ _ _ _ _=>rfl,fun _ _ _ _ _ _ _ _=>rfl,fun _ _ _ _ _ _ _=>rfl,
  fun _ _ _ _ _=>rfl,fun _ _ _ _ _=>rfl,fun _ _ _ _ _ _=>rfl,fun _ _ _ _ _ _ _ _=>rfl,fun _ _ _ _ _ _ _=>Are,fun _ _ _ _ _ _ _ _ _ _=>rfl,fun _ _ _ _ _ _ _ _=>rfl,fun _ _ _ _ _ _=>rfl,fun _ _ _ _ _ _=>rfl,
  fun _ _ _ _ _=>Aq3,fun _ _ _ _ _ _=>Aro,fun _ _ _ _ _ _ _=>rfl,fun _ _ _ _ _ _=>rfl,fun _ _ _ _ _ _=>rfl,fun _ _ _ _ _=>rfl,fun _ _ _ _ _ _ _=>rfl,fun _ _ _ _ _ _ _ _=>Ans _,
  fun _ _ _ _ _ _ _ _=>rfl,fun _ _ _ _ _ _ _ _=>rfl,fun _ _ _ _ _ _ _ _=>rfl,fun _ _ _ _ _ _ _ _ _=>rfl,fun _ _ _ _=>rfl,fun _ _ _ _ _=>rfl,fun _ _ _ _ _ _ _ _ _ _=>rfl,fun _ _ _ _ _ _ _ _ _=>rfl,
  fun _ _ _ _ _ _=>rfl,fun _ _ _ _ _ _=>rfl,fun _ _ _ _ _=>rfl,fun _ _ _ _ _ _ _=>Aox _ _ _,fun _ _ _ _ _ _ _=>rfl,fun _ _ _ _ _=>A5u,fun _ _ _ _ _ _=>Az9 _,fun _ _ _ _ _ _ _ _ _ _=>Az8 _ _ _ _ _,fun _ _ _ _ _ _ _ _ _=>rfl,
  fun _ _ _ _ _ _=>rfl,fun _ _ _ _ _ _=>rfl,fun _ _ _ _ _ _=>rfl,fun _ _ _=>rfl,fun _ _ _=>rfl,fun _ _ _ _=>rfl,fun _ _ _ _ _=>rfl,fun _ _ _ _ _=>A9f _,fun _ _=>rfl,fun _ _ _ _ _=>A3t,fun _ _ _ _ _ _ _=>Ayu,
  fun _ _ _ _=>rfl,fun _ _ _ _ _ _ _ _ _=>rfl,fun _ _ _ _ _ _=>rfl,fun _ _ _ _ _ _ _ _=>rfl,fun _ _ _ _ _=>rfl,fun _ _ _ _ _ _ _ _=>rfl,fun _ _=>rfl,fun _ _ _ _ _ _=>rfl,
  fun _ _=>rfl,fun _ _ _=>rfl,Ur,fun _=>rfl,fun _ _ _ _=>rfl,fun b _ _ _ _ _=>(by cases b <;> rfl),fun _ _=>rfl,fun _ _ _=>rfl,fun _=>rfl⟩
end Go.Ev

namespace Go.Ev
noncomputable section
abbrev VS:=Nat->EV
abbrev CD:=VS->Aa->R
abbrev A0i(ρ:VS)(d:Nat)(v:EV):VS:=fun i=>As (Nat.beq d i) v (ρ i)
abbrev Dh(ρ:VS)(x:Operand):Option EV:=match x with
 | .tmp t=>some (ρ t)
 | .const v=>ofV v
 | .global _=>none
 | .func f=>some (.func f [] [])
abbrev Aht(ρ:VS)(l:List Operand):Option (List EV):=@List.rec Operand (fun _=>Option (List EV)) (some []) (fun x _ ih=>match Dh ρ x,ih with|some e,some es=>some (e::es)|_,_=>none) l
abbrev Amp(ρ:VS)(l:List (Nat × Operand)):Option (List (Nat × EV)):=@List.rec (Nat × Operand) (fun _=>Option (List (Nat × EV))) (some []) (fun x _ ih=>match Dh ρ x.2,ih with|some e,some es=>some ((x.1,e)::es)|_,_=>none) l
abbrev As8(ρ:VS)(x:Option Operand):Option (Option EV):=match x with
 | none=>some none
 | some x=>(match Dh ρ x with|some e=>some (some e)|none=>none)
abbrev U2(T:Et)(call callV round:Ad)(op:Op)(ρ:VS)(h:Aa)(k:EV->Aa->R):R:=
 match op with
 | .move x=>(match Dh ρ x with|some e=>k e h|none=>none)
 | .assign x=>(match Dh ρ x with|some e=>k e h|none=>none)
 | .pick c a b=>(match Dh ρ c,Dh ρ a,Dh ρ b with|some c,some a,some b=>Bk c a b fun v=>k v h|_,_,_=>none)
 | .binOp op t x y _=>(match Dh ρ x,Dh ρ y with
  | some a,some b=>(match A58 op with|some g=>An g (bin T op t) a b fun v=>k v h|none=>Lt (bin T op t) a b fun v=>k v h)
  | _,_=>none)
 | .unOp .not _ x=>(match Dh ρ x with|some e=>Q1 e fun v=>k v h|none=>none)
 | .nilCheck x=>(match Dh ρ x with|some e=>A7 e fun v=>k v h|none=>none)
 | .fieldAddr s x f=>(match Dh ρ x,T.Iy s with
  | some e,some (.struct fields)=>(match Akx fields.toList f with
   | some fd=>(match T.size fd.type with|some n=>As (Nat.beq n 0) none (Am fd.offset e fun v=>k v h)|none=>none)
   | none=>none)
  | _,_=>none)
 | .indexAddr t x ix=>(match Dh ρ x,Dh ρ ix,T.Iy t with
  | some e,some ix,some (.array len et)=>(match T.size et with|some s=>Adg len s e ix fun v=>k v h|none=>none)
  | some e,some ix,some (.slice et)=>(match T.size et with|some s=>It s e ix fun v=>k v h|none=>none)
  | _,_,_=>none)
 | .index t x ix=>(match Dh ρ x,Dh ρ ix,T.Iy t with
  | some e,some ix',some (.array len et)=>(match T.size et,T.agg et with|some s,some agg=>Ayx len s agg s e ix' fun v=>k v h|_,_=>none)
  | _,_,_=>none)
 | .field t x f=>(match Dh ρ x,T.Iy t with
  | some e,some (.struct fields)=>(match Akx fields.toList f with
   | some fd=>(match T.agg fd.type with
    | some true=>(match T.size fd.type with|some n=>Ag3 fd.offset true n e fun v=>k v h|none=>none)
    | some false=>Ag3 fd.offset false 0 e fun v=>k v h
    | none=>none)
   | none=>none)
  | _,_=>none)
 | .convert src dst x=>(match Dh ρ x,T.Iy src,T.Iy dst with|some e,some _,some (.int c)=>My c e fun v=>k v h|_,_,_=>none)
 | .extract x ix=>(match Dh ρ x with|some e=>Bv ix e fun v=>k v h|none=>none)
 | .load t x=>(match Dh ρ x,T.agg t with
  | some e,some true=>(match T.size t with|some n=>Ca n e h fun v=>k v h|none=>none)
  | some e,some false=>Al e h fun v=>k v h
  | _,_=>none)
 | .store t a x=>(match Dh ρ a,Dh ρ x,T.size t with|some a,some x,some n=>D5 n a x h fun h=>k (.tuple []) h|_,_,_=>none)
 | .alloc t=>(match T.zero t with|some z=>Hj (.cells z t) h k|none=>none)
 | .box t x=>(match Dh ρ x with|some e=>Ea t e h k|none=>none)
 | .call { callee:=.value (.func g),args,.. }=>(match Aht ρ args.toList with|some xs=>Aj (call g xs h) k|none=>none)
 | .call { callee:=.value f,args,.. }=>(match Dh ρ f,Aht ρ args.toList with|some e,some xs=>Aj (Y6 callV round e xs h) k|_,_=>none)
 | .call { callee:=.builtin .append,args,argTypes }=>(match args.toList,argTypes.toList with
  | [s,x],[t,u]=>(match Dh ρ s,Dh ρ x,T.Iy u,T.Iy t with
   | some a,some b,some (.slice _),some (.slice e)=>(match T.size e,T.zero e with
    | some size,some _=>Aj (Dt e size a b h) k
    | _,_=>none)
   | _,_,_,_=>none)
  | _,_=>none)
 | .call { callee:=.builtin .len,args,argTypes }=>(match args.toList,argTypes.toList with
  | [x],[t]=>(match Dh ρ x,T.Iy t with
   | some e,some (.slice _)=>Hg e fun v=>k v h
   | some e,some (.chan ..)=>Aj (Ar0 e h) k
   | some e,_=>Aj (builtin T .len argTypes [e] h) k
   | _,_=>none)
  | _,_=>none)
 | .call { callee:=.builtin b,args,argTypes }=>(match Aht ρ args.toList with|some xs=>Aj (builtin T b argTypes xs h) k|none=>none)
 | .unOp .neg _ x=>(match Dh ρ x with|some e=>Asq e fun v=>k v h|none=>none)
 | .build t ps=>(match T.zero t,Amp ρ ps.toList,T.Iy t with
  | some z,some l,some (.struct fields)=>(match placesOf T fields.toList with
   | some ps=>Bu (D3 ps) z l fun v=>k v h
   | none=>none)
  | some z,some l,some (.array _ e)=>(match T.size e with
   | some s=>Bu (Pz s) z l fun v=>k v h
   | none=>none)
  | _,_,_=>none)
 | .buildSlice t n ps=>(match T.Iy t,Amp ρ ps.toList with
  | some (.slice e),some l=>(match T.size e,T.zero e with
   | some s,some z=>Aj (B1 z e s n l h) k
   | _,_=>none)
  | _,_=>none)
 | .makeFunc (.func f) first captured=>(match Aht ρ first.toList,Aht ρ captured.toList with|some a,some b=>k (.func f a b) h|_,_=>none)
 | .sliceToArrayPointer t x=>(match Dh ρ x,T.Iy t with|some e,some (.array n _)=>Aig n e fun v=>k v h|_,_=>none)
 | .slice t x lo hi mx=>(match Dh ρ x,As8 ρ lo,As8 ρ hi,As8 ρ mx with
  | some e,some lo,some hi,some mx=>(match T.Iy t with
   | some (.array n et)=>(match T.size et with|some s=>Mu n s e lo hi mx fun v=>k v h|none=>none)
   | some (.slice et)=>(match T.size et with|some s=>R9 s e lo hi mx fun v=>k v h|none=>none)
   | _=>none)
  | _,_,_,_=>none)
 | .makeSlice t l c=>(match Dh ρ l,Dh ρ c,T.Iy t with
  | some l,some c,some (.slice e)=>(match T.zero e with|some z=>Aj (Abv z e l c h) k|none=>none)
  | _,_,_=>none)
 | .makeMap _ none=>Aj (Ai6 h) k
 | .makeChan t s=>(match Dh ρ s,T.Iy t with
  | some s,some (.chan _ e)=>(match T.size e with|some _=>Aj (Afw s h) k|none=>none)
  | _,_=>none)
 | .lookup t x ix ok=>(match Dh ρ x,Dh ρ ix,T.Iy t with|some m,some i,some (.map kt e)=>Aj (Ai9 T kt e ok m i h) k|_,_,_=>none)
 | .mapUpdate t m ix x=>(match Dh ρ m,Dh ρ ix,Dh ρ x,T.Iy t with|some m,some i,some x,some (.map kt _)=>Aj (W6 T kt m i x h) k|_,_,_,_=>none)
 | .select cs false=>(match cs.toList with
  | [c]=>(match c.send with
   | some x=>(match Dh ρ c.chan,Dh ρ x,zeroOf T c.elem with|some c,some x,some _=>Aj (Aol c x h) k|_,_,_=>none)
   | none=>(match Dh ρ c.chan,zeroOf T c.elem with|some c,some zv=>Aj (Ao7 zv c h) k|_,_=>none))
  | _=>none)
 | _=>none
def A2e(T:Et)(op:Op):Bool:=
 match op with
 | .move _ | .assign _ | .pick .. | .binOp .. | .unOp .not .. | .unOp .neg .. | .nilCheck _ | .fieldAddr .. | .indexAddr .. | .field .. | .convert .. | .extract .. | .load .. | .store .. | .alloc _ | .box .. | .call ..=>true
 | .index t x ix=>(match Bc x,Bc ix,T.Iy t with|some _,some _,some (.array ..)=>true|_,_,_=>false)
 | .build .. | .buildSlice .. | .makeFunc (.func _) .. | .sliceToArrayPointer .. | .slice .. | .makeSlice .. | .makeMap _ none | .makeChan .. | .lookup .. | .mapUpdate .. | .select _ false=>true
 | _=>false
end
theorem Cy(tm:Ai)(x:Operand):Dh (tmp tm) x=(Bc x).map fun e=>e tm:=by
 cases x with
 | tmp t=>show some (tmp tm t)=some (Axk (pathOf t) tm);rw[Abc]
 | const v=>show ofV v=Option.map _ (match ofV v with|some c=>some (Afk c)|none=>none);cases ofV v <;> rfl
 | global g=>rfl
 | func f=>rfl
theorem Ad1(tm:Ai)(l:List Operand):Aht (tmp tm) l=(H4 l).map fun e=>e tm:=by
 induction l with
 | nil=>rfl
 | cons x r ih=>
  show (match Dh (tmp tm) x,Aht (tmp tm) r with|some e,some es=>some (e::es)|_,_=>none)=Option.map _ (match Bc x,H4 r with|some e,some es=>some (fun tm=>e tm::es tm)|_,_=>none)
  rw[ih,Cy]
  cases Bc x <;> cases H4 r <;> rfl
theorem Ark(tm:Ai)(l:List (Nat × Operand)):Amp (tmp tm) l=(Zy l).map fun e=>e tm:=by
 induction l with
 | nil=>rfl
 | cons x r ih=>
  show (match Dh (tmp tm) x.2,Amp (tmp tm) r with|some e,some es=>some ((x.1,e)::es)|_,_=>none)=Option.map _ (match Bc x.2,Zy r with|some e,some es=>some (fun tm=>(x.1,e tm)::es tm)|_,_=>none)
  rw[ih,Cy]
  cases Bc x.2 <;> cases Zy r <;> rfl
theorem A49(tm:Ai)(x:Option Operand):As8 (tmp tm) x=(Ajc x).map fun e=>e tm:=by
 cases x with
 | none=>rfl
 | some x=>
  show (match Dh (tmp tm) x with|some e=>some (some e)|none=>none)=Option.map _ (match Bc x with|some e=>some (fun tm=>some (e tm))|none=>none)
  rw[Cy];cases Bc x <;> rfl
theorem Apd {T:Et}{call round:Ad}{op:Op}(ok:A2e T op=true)(k:KF)(tm:Ai)(h:Aa):Jm T call round op k tm h []=U2 T call call round op (tmp tm) h fun v h=>k v tm h []:=by
 cases op with
 | move x=>simp only[Jm,U2,Cy];cases Bc x <;> rfl
 | assign x=>simp only[Jm,U2,Cy];cases Bc x <;> rfl
 | pick c a b=>simp only[Jm,U2,Cy];cases Bc c <;> cases Bc a <;> cases Bc b <;> rfl
 | binOp op t x y sh=>
  simp only[Jm,U2,Cy]
  cases Bc x <;> cases Bc y <;> try rfl
  simp only[Option.map_some]
  cases A58 op <;> rfl
 | unOp o t x=>
  cases o with
  | not=>simp only[Jm,U2,Cy];cases Bc x <;> rfl
  | neg=>simp only[Jm,U2,Cy];cases Bc x <;> first|rfl|exact A5u
  | _=>cases ok
 | nilCheck x=>simp only[Jm,U2,Cy];cases Bc x <;> rfl
 | fieldAddr s x f=>
  simp only[Jm,U2,Cy]
  cases Bc x with
  | none=>rfl
  | some e=>
   cases T.Iy s with
   | none=>rfl
   | some d=>
    cases d <;> try rfl
    rename_i fs
    simp only[Option.map_some]
    cases Akx fs.toList f with
    | none=>rfl
    | some fd=>
     simp only
     cases T.size fd.type with
     | none=>rfl
     | some n=>simp only;cases Nat.beq n 0 <;> rfl
 | indexAddr t x ix=>
  simp only[Jm,U2,Cy]
  cases Bc x <;> cases Bc ix <;> try rfl
  simp only[Option.map_some]
  cases T.Iy t with
  | none=>rfl
  | some d=>
   cases d <;> try rfl
   ·rename_i n et;simp only;cases T.size et <;> rfl
   ·rename_i et;simp only;cases T.size et <;> first|rfl|exact Are
 | index t x ix=>
  simp only[A2e]at ok
  simp only[Jm,U2,Cy]
  generalize Bc x=ex at ok ⊢
  generalize Bc ix=ei at ok ⊢
  generalize T.Iy t=u at ok ⊢
  cases ex <;> try (cases ok;done)
  cases ei <;> try (cases ok;done)
  cases u <;> try (cases ok;done)
  rename_i d
  cases d <;> try (cases ok;done)
  rename_i n et
  simp only[Option.map_some]
  cases T.size et <;> cases T.agg et <;> rfl
 | field t x f=>
  simp only[Jm,U2,Cy]
  cases Bc x with
  | none=>rfl
  | some e=>
   cases T.Iy t with
   | none=>rfl
   | some d=>
    cases d <;> try rfl
    rename_i fs
    simp only[Option.map_some]
    cases Akx fs.toList f with
    | none=>rfl
    | some fd=>
     simp only
     cases T.agg fd.type with
     | none=>rfl
     | some b=>cases b <;> simp only <;> first|rfl|(cases T.size fd.type <;> rfl)
 | convert s t x=>
  simp only[Jm,U2,Cy]
  cases Bc x <;> cases T.Iy s <;> cases T.Iy t <;> try rfl
  rename_i d
  cases d <;> rfl
 | extract x ix=>simp only[Jm,U2,Cy];cases Bc x <;> rfl
 | load t x=>
  simp only[Jm,U2,Cy]
  cases Bc x with
  | none=>rfl
  | some e=>
   cases T.agg t with
   | none=>rfl
   | some b=>cases b <;> simp only[Option.map_some] <;> first|exact Aq3|(cases T.size t <;> first|rfl|exact Aro)
 | store t a x=>simp only[Jm,U2,Cy];cases Bc a <;> cases Bc x <;> cases T.size t <;> rfl
 | alloc t=>simp only[Jm,U2];cases T.zero t <;> rfl
 | box t x=>simp only[Jm,U2,Cy];cases Bc x <;> rfl
 | build t ps=>
  simp only[Jm,U2,Ark]
  cases T.zero t <;> cases Zy ps.toList <;> cases T.Iy t <;> try rfl
  rename_i d
  cases d <;> try rfl
  ·rename_i n et;simp only[Option.map_some];cases T.size et <;> first|rfl|exact Aox _ _ _
  ·rename_i fs;simp only[Option.map_some];cases placesOf T fs.toList <;> first|rfl|exact Aox _ _ _
 | buildSlice t n ps=>
  simp only[Jm,U2,Ark]
  cases T.Iy t with
  | none=>rfl
  | some d=>
   cases d <;> try rfl
   rename_i e
   cases Zy ps.toList <;> try rfl
   simp only[Option.map_some]
   cases T.size e <;> cases T.zero e <;> rfl
 | makeFunc f a b=>
  cases f <;> try (cases ok;done)
  simp only[Jm,U2,Ad1]
  cases H4 a.toList <;> cases H4 b.toList <;> rfl
 | sliceToArrayPointer t x=>
  simp only[Jm,U2,Cy]
  cases Bc x <;> cases T.Iy t <;> try rfl
  rename_i d
  cases d <;> first|rfl|exact Az9 _
 | slice t x lo hi mx=>
  simp only[Jm,U2,Cy,A49]
  cases Bc x <;> cases Ajc lo <;> cases Ajc hi <;> cases Ajc mx <;> try rfl
  simp only[Option.map_some]
  rename_i e1 l1 h1 m1
  cases T.Iy t with
  | none=>rfl
  | some d=>
   cases d <;> try rfl
   ·rename_i et;simp only;cases T.size et <;> rfl
   ·rename_i n et
    simp only
    cases T.size et with
    | none=>rfl
    | some s=>exact Az8 n s l1 h1 m1
 | makeSlice t l c=>
  simp only[Jm,U2,Cy]
  cases Bc l <;> cases Bc c <;> cases T.Iy t <;> try rfl
  rename_i d
  cases d <;> try rfl
  rename_i e;simp only[Option.map_some];cases T.zero e <;> rfl
 | makeMap t n=>cases n <;> first|rfl|cases ok
 | makeChan t s=>
  simp only[Jm,U2,Cy]
  cases Bc s <;> cases T.Iy t <;> try rfl
  rename_i d
  cases d <;> try rfl
  rename_i dr e;simp only[Option.map_some];cases T.size e <;> rfl
 | lookup t x ix b=>
  simp only[Jm,U2,Cy]
  cases Bc x <;> cases Bc ix <;> cases T.Iy t <;> try rfl
  rename_i d
  cases d <;> rfl
 | mapUpdate t m ix x=>
  simp only[Jm,U2,Cy]
  cases Bc m <;> cases Bc ix <;> cases Bc x <;> cases T.Iy t <;> try rfl
  rename_i d
  cases d <;> rfl
 | select cs b=>
  cases b <;> try (cases ok;done)
  simp only[Jm,U2,Cy]
  generalize cs.toList=l
  match l with
  | []=>rfl
  | [c]=>
   simp only
   cases c.send with
   | none=>simp only;cases Bc c.chan <;> cases zeroOf T c.elem <;> rfl
   | some x=>simp only[Cy];cases Bc c.chan <;> cases Bc x <;> cases zeroOf T c.elem <;> rfl
  | _::_::_=>rfl
 | call c=>
  obtain⟨callee,args,ats⟩:=c
  cases callee with
  | value f=>
   cases f with
   | func g=>simp only[Jm,U2,Ad1];cases H4 args.toList <;> rfl
   | global g=>rfl
   | tmp t=>
    simp only[Jm,U2,Ad1]
    rw[Cy]
    generalize Bc _=ex
    cases ex <;> cases H4 args.toList <;> first|rfl|exact Ans _
   | const v=>
    simp only[Jm,U2,Ad1]
    rw[Cy]
    generalize Bc _=ex
    cases ex <;> cases H4 args.toList <;> first|rfl|exact Ans _
  | builtin b=>
   have gen:∀ b,b ≠ .append->b ≠ .len->Jm T call round (.call ⟨.builtin b,args,ats⟩) k tm h []=U2 T call call round (.call ⟨.builtin b,args,ats⟩) (tmp tm) h fun v h=>k v tm h []:=fun b h1 h2=>by
    cases b <;> first|exact absurd rfl h1|exact absurd rfl h2|(simp only[Jm,U2,Ad1];cases H4 args.toList <;> rfl)
   by_cases h1:b=.append
   ·subst h1
    simp only[Jm,U2,Cy]
    generalize args.toList=l
    generalize ats.toList=r
    match l,r with
    | [],_=>rfl
    | [_],_=>rfl
    | _::_::_::_,_=>rfl
    | [s,x],[]=>rfl
    | [s,x],[_]=>rfl
    | [s,x],_::_::_::_=>rfl
    | [s,x],[t,u]=>
     simp only[Cy]
     cases Bc s <;> cases Bc x <;> try rfl
     simp only[Option.map_some]
     cases T.Iy u with
     | none=>rfl
     | some d=>
      cases d <;> try rfl
      cases T.Iy t with
      | none=>rfl
      | some d'=>
       cases d' <;> try rfl
       rename_i e
       simp only
       cases T.size e <;> cases T.zero e <;> rfl
   ·by_cases h2:b=.len
    ·subst h2
     simp only[Jm,U2,Cy]
     generalize args.toList=l
     generalize hr:ats.toList=r
     match l,r,hr with
     | [],_,_=>rfl
     | _::_::_,_,_=>rfl
     | [x],[],_=>rfl
     | [x],_::_::_,_=>rfl
     | [x],[t],hr=>
      simp only[Cy]
      cases Bc x <;> try rfl
      simp only[Option.map_some]
      cases T.Iy t with
      | none=>rfl
      | some d=>cases d <;> rfl
    ·exact gen b h1 h2
  | _=>rfl
 | _=>cases ok
noncomputable section
abbrev Zx(n:Nat)(d:Option Tmp)(ρ:VS)(v:EV):VS:=match d with|none=>ρ|some d=>As (Nat.ble (Nat.succ d) n) (A0i ρ d v) ρ
abbrev Aue(ops:List Oper)(ρ:VS)(g:Nat × Bool):Bool:=match Aic ops g.1 with
 | some o=>(match o.dst with|some d=>Ay (ρ d) g.2|none=>false)
 | none=>false
abbrev Asw(T:Et)(call callV round:Ad)(n:Nat)(ops:List Oper)(fin:CD)(l:List Oper):Mode->CD:=
 @List.rec Oper (fun _=>Mode->CD) (fun _=>fin) (fun o _ ih m=>@Option.rec (Nat × Bool) (fun _=>CD) (fun ρ h=>U2 T call callV round o.op ρ h fun v h=>ih none (Zx n o.dst ρ v) h)
  (fun g ρ h=>match Ou m g with
   | some true=>U2 T call callV round o.op ρ h fun v h=>ih (Dm ops g true o.dst) (Zx n o.dst ρ v) h
   | some false=>ih (Dm ops g false o.dst) (Zx n o.dst ρ (.tuple [])) h
   | none=>As (Aue ops ρ g) (U2 T call callV round o.op ρ h fun v h=>ih (Dm ops g true o.dst) (Zx n o.dst ρ v) h) (ih (Dm ops g false o.dst) (Zx n o.dst ρ (.tuple [])) h)) o.guard) l
abbrev Av3(T:Et)(call callV round:Ad)(op:Op)(i b base:Nat)(s:DX)(ρ:VS)(h:Aa)(k:DX->EV->Aa->R):R:=
 match cls op with
 | .val=>U2 T call callV round op ρ h (k s)
 | .load=>(match op with | .load t x=>(match Dh ρ x with|some e=>Bd i b base e s fun s=>U2 T call callV round (.load t x) ρ h (k s)|none=>none)|_=>none)
 | .new=>Af0 i h s fun s=>U2 T call callV round op ρ h (k s)
 | .sto=>(match op with | .store t a x=>(match Dh ρ a with|some e=>Ad4 i b e s fun s=>U2 T call callV round (.store t a x) ρ h (k s)|none=>none)|_=>none)
 | .pur=>Bal h fun h0=>U2 T call callV round op ρ h0 fun v _=>k s v h
 | .Wn=>As (Xy b s) (U2 T call callV round op ρ (Ii b s h) fun v h'=>Kk i b s h h' fun s h=>k s v h) none
abbrev Aor(T:Et)(call callV round:Ad)(n:Nat)(ops:List Oper)(bs:Tr Nat)(base:Nat)(fin:CD)(l:List Oper):Nat->Mode->DX->CD:=
 @List.rec Oper (fun _=>Nat->Mode->DX->CD) (fun _ _ _=>fin) (fun o _ ih i m s ρ h=>match bs.get i with
  | none=>none
  | some b=>@Option.rec (Nat × Bool) (fun _=>CD) (fun ρ h=>Av3 T call callV round o.op i b base s ρ h fun s v h=>ih (Nat.succ i) none s (Zx n o.dst ρ v) h)
   (fun g ρ h=>match Ou m g with
    | some true=>Av3 T call callV round o.op i b base s ρ h fun s v h=>ih (Nat.succ i) (Dm ops g true o.dst) s (Zx n o.dst ρ v) h
    | some false=>ih (Nat.succ i) (Dm ops g false o.dst) s (Zx n o.dst ρ (.tuple [])) h
    | none=>As (Aue ops ρ g) (Av3 T call callV round o.op i b base s ρ h fun s v h=>ih (Nat.succ i) (Dm ops g true o.dst) s (Zx n o.dst ρ v) h) (ih (Nat.succ i) (Dm ops g false o.dst) s (Zx n o.dst ρ (.tuple [])) h)) o.guard ρ h) l
abbrev Asg(T:Et)(call callV round:Ad)(n:Nat)(ops:List Oper)(fin:CD):CD:=fun ρ h=>
 As (X1 ops 0) (As (U3 ops (Is ops 0 .nil) ops 0 []) (Fz h fun base s=>Aor T call callV round n ops (Is ops 0 .nil) base fin ops 0 none s ρ h) none) none
abbrev Am3:=List (Nat × CD)
abbrev A9s(env:Am3)(id:Nat):CD:=@List.rec (Nat × CD) (fun _=>CD) (fun _ _=>none) (fun p _ ih=>@Prod.rec Nat CD (fun _=>CD) (fun j k=>As (Nat.beq j id) k ih) p) env
abbrev I0(c:CD->CD)(fuel:Nat):CD:=@Nat.rec (fun _=>CD) (fun _ _=>none) (fun _ ih=>c ih) fuel
abbrev H6(T:Et)(call callV round:Ad)(fuel n:Nat)(ret:CD)(c:Code):Am3->CD->CD:=
 @Code.rec (fun _=>Am3->CD->CD) (fun _ k=>k)
  (fun _ ops dr _ k=>As dr (As (Ut T ops.toList) (Asw T call callV round n ops.toList k ops.toList none) (Asg T call callV round n ops.toList k)) (Asw T call callV round n ops.toList k ops.toList none))
  (fun _ _ a b env k=>a env (b env k))
  (fun c _ _ a b env k ρ h=>match Dh ρ c with|some e=>De e (a env k ρ h) (b env k ρ h)|none=>none)
  (fun id _ c env k=>c ((id,k)::env) k)
  (fun _ c env _=>I0 (fun ih=>c env ih) fuel)
  (fun _ _ _ _ _ _ _ _ _ _=>none)
  (fun id env _=>A9s env id) (fun _ _ _ _ _ _=>none) (fun _ _ k=>k) (fun _ _ _ _ _=>none) (fun _ _=>ret) (fun _ _ _ _ _=>none) c
def Arp(T:Et)(l:List Oper):Bool:=@List.rec Oper (fun _=>Bool) true (fun o _ ih=>As (A2e T o.op) ih false) l
def okC(T:Et)(c:Code):Bool:=@Code.rec (fun _=>Bool) true (fun _ ops _=>Arp T ops.toList) (fun _ _ a b=>As a b false) (fun _ _ _ a b=>As a b false) (fun _ _ a=>a) (fun _ a=>a)
 (fun _ _ _ _ _ _=>false) (fun _=>true) (fun _ a=>a) (fun _=>true) (fun _=>true) true (fun _=>true) c
abbrev rvD(ρ:VS):ResultVar->RV
 | .tmp t=>.v (ρ t)
 | .cell a t=>.c (ρ a) t
abbrev A38(T:Et)(res:List ResultVar):CD:=fun ρ h=>match res with
 | [.tmp t]=>some (ρ t,h)
 | []=>some (.tuple [],h)
 | [.tmp s,.tmp t]=>some (.tuple [ρ s,ρ t],h)
 | res=>Cx T (res.map (rvD ρ)) h
abbrev Aoo(l:List EV):Nat->VS->VS:=@List.rec EV (fun _=>Nat->VS->VS) (fun _ ρ=>ρ) (fun v _ ih i ρ=>ih (Nat.succ i) (A0i ρ i v)) l
abbrev A8v(T:Et)(call callV round:Ad)(fuel f:Nat)(args:List EV)(h:Aa):R:=
 match T.fn f with
 | some { ntmps:=n,body:=some c,results:=res,.. }=>As (Nat.ble (Gx args) n) (H6 T call callV round fuel n (A38 T res.toList) c [] (A38 T res.toList) (Aoo args 0 fun _=>.tuple []) h) none
 | _=>none
def okF(T:Et)(f:Nat):Bool:=match T.fn f with|some { body:=some c,.. }=>okC T c|_=>false
end
def Eqv(k:CF)(k':CD):Prop:=∀ tm h,k tm h []=k' (tmp tm) h
theorem Az7(tm:Ai)(d:Nat)(v:EV):tmp (tm.put d (some v))=A0i (tmp tm) d v:=funext fun i=>by
 rw[Ur];show _=As (Nat.beq d i) v (tmp tm i)
 by_cases e:d=i
 ·subst e;rw[if_pos rfl,Nat.beq_refl,Ak]
 ·rw[if_neg e,beq_false e,Ax]
theorem Aj3 {n:Nat}{d:Option Tmp}{k:CF}{k':CD}(hk:Eqv k k')(v:EV)(tm:Ai)(h:Aa):Ht n d k v tm h []=k' (Zx n d (tmp tm) v) h:=by
 cases d with
 | none=>exact hk tm h
 | some d=>
  show As (Nat.ble (Nat.succ d) n) (fun(v:EV) tm h ds=>k (Nt (pathOf d) (some v) tm) h ds) (fun _=>k) v tm h []=k' (As (Nat.ble (Nat.succ d) n) (A0i (tmp tm) d v) (tmp tm)) h
  cases Nat.ble (Nat.succ d) n with
  | true=>show k (Nt (pathOf d) (some v) tm) h []=k' (A0i (tmp tm) d v) h;rw[hk,Aj0,Az7]
  | false=>exact hk tm h
theorem Az1(ops:List Oper)(g:Nat × Bool)(tm:Ai):Xi ops g tm=Aue ops (tmp tm) g:=by
 unfold Xi
 show _=(match Aic ops g.1 with|some o=>(match o.dst with|some d=>Ay (tmp tm d) g.2|none=>false)|none=>false)
 cases Aic ops g.1 with
 | none=>rfl
 | some o=>
  simp only
  cases o.dst with
  | none=>rfl
  | some d=>
   simp only
   exact Ch (k:=Ge (pathOf d)) rfl g.2 tm
theorem Ayz {T:Et}{call round:Ad}{n:Nat}{ops:List Oper}{fin:CF}{fin':CD}(hf:Eqv fin fin'):∀ (l:List Oper) (m:Mode),Arp T l=true->Eqv (X7 T call round n ops fin l m) (Asw T call call round n ops fin' l m)
 | [],m,_=>hf
 | o::l,m,ok=>by
  obtain⟨ok1,ok2⟩:=Rb (show As (A2e T o.op) (Arp T l) false=true from ok)
  have ih:=fun m=>Ayz (call:=call) (round:=round) (n:=n) (ops:=ops) hf l m ok2
  have one:∀ m tm h,Jm T call round o.op (Ht n o.dst (X7 T call round n ops fin l m)) tm h []=U2 T call call round o.op (tmp tm) h fun v h=>Asw T call call round n ops fin' l m (Zx n o.dst (tmp tm) v) h:=fun m tm h=>by
   rw[Apd ok1];congr 1;funext v h;exact Aj3 (ih m) v tm h
  intro tm h
  obtain⟨dst,op,ty,ps,af,g⟩:=o
  cases g with
  | none=>exact one none tm h
  | some g=>
   show Ag2 (Ou m g) (Jm T call round op (Ht n dst (X7 T call round n ops fin l (Dm ops g true dst)))) (Ht n dst (X7 T call round n ops fin l (Dm ops g false dst)) (.tuple []))
    (Afn (Xi ops g) (Jm T call round op (Ht n dst (X7 T call round n ops fin l (Dm ops g true dst)))) (Ht n dst (X7 T call round n ops fin l (Dm ops g false dst)))) tm h [] =
    (match Ou m g with
     | some true=>U2 T call call round op (tmp tm) h fun v h=>Asw T call call round n ops fin' l (Dm ops g true dst) (Zx n dst (tmp tm) v) h
     | some false=>Asw T call call round n ops fin' l (Dm ops g false dst) (Zx n dst (tmp tm) (.tuple [])) h
     | none=>As (Aue ops (tmp tm) g) (U2 T call call round op (tmp tm) h fun v h=>Asw T call call round n ops fin' l (Dm ops g true dst) (Zx n dst (tmp tm) v) h) (Asw T call call round n ops fin' l (Dm ops g false dst) (Zx n dst (tmp tm) (.tuple [])) h))
   cases Ou m g with
   | none=>
    show As (Xi ops g tm) (Jm T call round op _ tm h []) (Ht n dst _ (.tuple []) tm h [])=_
    rw[Az1,one,Aj3 (ih _)]
   | some b=>cases b with
    | true=>exact one _ tm h
    | false=>exact Aj3 (ih _) _ tm h
theorem Ba5 {T:Et}{call round:Ad}{op:Op}(ok:A2e T op=true){i b base:Nat}{s:DX}{k:DX->KF}{tm:Ai}{h:Aa}{k':DX->EV->Aa->R}(hk:∀ s v h,k s v tm h []=k' s v h):
 dOp T call round op i b base s k tm h []=Av3 T call call round op i b base s (tmp tm) h k':=by
 have e:∀ s (_:Aa),(fun(v:EV) (h:Aa)=>k s v tm h [])=k' s:=fun s _=>funext fun v=>funext fun h=>hk s v h
 unfold dOp Av3
 cases hc:cls op with
 | val=>simp only;rw[Apd ok,e s h]
 | new=>simp only;show Jm T call round op (k _) tm h []=_;rw[Apd ok,e _ h];rfl
 | load=>
  obtain⟨t,x,rfl⟩:=An2 hc
  simp only[Cy]
  cases Bc x with
  | none=>rfl
  | some ex=>
   show Lm (fun q _=>As (Aen b base q s) (Jm T call round (.load t x) (k (s.ld i q)) tm h []) none) (ex tm)=Lm (fun q _=>As (Aen b base q s) (U2 T call call round (.load t x) (tmp tm) h (k' (s.ld i q))) none) (ex tm)
   congr 1;funext q o;rw[Apd ok,e _ h]
 | sto=>
  cases op <;> try rfl
  rename_i t a x
  simp only[Cy]
  cases Bc a with
  | none=>rfl
  | some ea=>
   show Lm (fun q _=>As (Ak7 b q s) (Jm T call round (.store t a x) (k (s.sto i q)) tm h []) none) (ea tm)=Lm (fun q _=>As (Ak7 b q s) (U2 T call call round (.store t a x) (tmp tm) h (k' (s.sto i q))) none) (ea tm)
   congr 1;funext q o;rw[Apd ok,e _ h]
 | pur=>
  show Jm T call round op (fun v tm _ ds=>k s v tm h ds) tm ⟨.nil,h.next,h.next⟩ []=U2 T call call round op (tmp tm) ⟨.nil,h.next,h.next⟩ fun v _=>k' s v h
  rw[Apd ok];congr 1;funext v h';exact hk s v h
 | Wn=>
  show As (Xy b s) (Jm T call round op (fun v tm h' ds=>Kk i b s h h' (fun s h=>k s v tm h ds)) tm (Ii b s h) []) none=As (Xy b s) (U2 T call call round op (tmp tm) (Ii b s h) fun v h'=>Kk i b s h h' fun s h=>k' s v h) none
  rw[Apd ok];congr 2;funext v h';congr 1;funext s h;exact hk s v h
theorem Azq {T:Et}{call round:Ad}{n:Nat}{ops:List Oper}{bs:Tr Nat}{base:Nat}{fin:CF}{fin':CD}(hf:Eqv fin fin'):∀ (l:List Oper) (i:Nat) (m:Mode) (s:DX),Arp T l=true ->
 Eqv (Ky T call round n ops bs base fin l i m s) (Aor T call call round n ops bs base fin' l i m s)
 | [],i,m,s,_=>hf
 | o::l,i,m,s,ok=>by
  obtain⟨ok1,ok2⟩:=Rb (show As (A2e T o.op) (Arp T l) false=true from ok)
  have ih:=fun i m s=>Azq (call:=call) (round:=round) (n:=n) (ops:=ops) (bs:=bs) (base:=base) hf l i m s ok2
  have one:∀ b m tm h,dOp T call round o.op i b base s (fun s=>Ht n o.dst (Ky T call round n ops bs base fin l (Nat.succ i) m s)) tm h [] =
   Av3 T call call round o.op i b base s (tmp tm) h fun s v h=>Aor T call call round n ops bs base fin' l (Nat.succ i) m s (Zx n o.dst (tmp tm) v) h:=fun b m tm h=>
   Ba5 ok1 fun s v h=>Aj3 (ih _ m s) v tm h
  intro tm h
  obtain⟨dst,op,ty,ps,af,g⟩:=o
  show A4l (bs.get i) _ tm h []=(match bs.get i with|none=>none|some b=>_)
  cases bs.get i with
  | none=>rfl
  | some b=>
   cases g with
   | none=>exact one b none tm h
   | some g=>
    show Ag2 (Ou m g) (dOp T call round op i b base s fun s=>Ht n dst (Ky T call round n ops bs base fin l (Nat.succ i) (Dm ops g true dst) s)) (Ht n dst (Ky T call round n ops bs base fin l (Nat.succ i) (Dm ops g false dst) s) (.tuple []))
     (Afn (Xi ops g) (dOp T call round op i b base s fun s=>Ht n dst (Ky T call round n ops bs base fin l (Nat.succ i) (Dm ops g true dst) s)) (Ht n dst (Ky T call round n ops bs base fin l (Nat.succ i) (Dm ops g false dst) s))) tm h [] =
     (match Ou m g with
      | some true=>Av3 T call call round op i b base s (tmp tm) h fun s v h=>Aor T call call round n ops bs base fin' l (Nat.succ i) (Dm ops g true dst) s (Zx n dst (tmp tm) v) h
      | some false=>Aor T call call round n ops bs base fin' l (Nat.succ i) (Dm ops g false dst) s (Zx n dst (tmp tm) (.tuple [])) h
      | none=>As (Aue ops (tmp tm) g) (Av3 T call call round op i b base s (tmp tm) h fun s v h=>Aor T call call round n ops bs base fin' l (Nat.succ i) (Dm ops g true dst) s (Zx n dst (tmp tm) v) h) (Aor T call call round n ops bs base fin' l (Nat.succ i) (Dm ops g false dst) s (Zx n dst (tmp tm) (.tuple [])) h))
    cases Ou m g with
    | none=>
     show As (Xi ops g tm) (dOp T call round op i b base s _ tm h []) (Ht n dst _ (.tuple []) tm h [])=_
     rw[Az1,one,Aj3 (ih _ _ _)]
    | some b'=>cases b' with
     | true=>exact one b _ tm h
     | false=>exact Aj3 (ih _ _ _) _ tm h
theorem Ab5 {T:Et}{call round:Ad}{fuel fn n:Nat}{ret:CF}{ret':CD}(hr:Eqv ret ret'):∀ (c:Code) (env:Env) (env':Am3) (k:CF) (k':CD),okC T c=true->(∀ id,Eqv (Aqb (fun _=>Dc) env id) (A9s env' id))->Eqv k k' ->
 Eqv (Py T call round fuel fn n none (fun _=>Dc) ret c env k) (H6 T call call round fuel n ret' c env' k')
 | .skip,env,env',k,k',_,he,hk=>hk
 | .region id ops dr,env,env',k,k',ok,he,hk=>by
  have ok:Arp T ops.toList=true:=ok
  cases dr with
  | false=>exact Ayz hk ops.toList none ok
  | true=>
   show Eqv (As (Ut T ops.toList) (X7 T call round n ops.toList k ops.toList none) (An7 T call round n ops.toList k)) (As (Ut T ops.toList) (Asw T call call round n ops.toList k' ops.toList none) (Asg T call call round n ops.toList k'))
   cases Ut T ops.toList with
   | true=>exact Ayz hk ops.toList none ok
   | false=>
    show Eqv (An7 T call round n ops.toList k) (Asg T call call round n ops.toList k')
    unfold An7 Asg
    intro tm h
    cases X1 ops.toList 0 <;> try rfl
    cases U3 ops.toList (Is ops.toList 0 .nil) ops.toList 0 [] <;> try rfl
    exact Azq hk ops.toList 0 none _ ok tm h
 | .seq a b,env,env',k,k',ok,he,hk=>by
  obtain⟨oa,ob⟩:=Rb (show As (okC T a) (okC T b) false=true from ok)
  exact Ab5 hr a env env' _ _ oa he (Ab5 hr b env env' k k' ob he hk)
 | .cond c a b,env,env',k,k',ok,he,hk=>by
  obtain⟨oa,ob⟩:=Rb (show As (okC T a) (okC T b) false=true from ok)
  have ha:=Ab5 (call:=call) (round:=round) (fuel:=fuel) (fn:=fn) (n:=n) hr a env env' _ _ oa he hk
  have hb:=Ab5 (call:=call) (round:=round) (fuel:=fuel) (fn:=fn) (n:=n) hr b env env' _ _ ob he hk
  intro tm h
  show (match Bc c with|some e=>Ane e _ _|none=>Dc) tm h []=(match Dh (tmp tm) c with|some e=>De e _ _|none=>none)
  rw[Cy]
  cases Bc c with
  | none=>rfl
  | some e=>
   show onB (Py T call round fuel fn n none (fun _=>Dc) ret a env k tm h []) (Py T call round fuel fn n none (fun _=>Dc) ret b env k tm h []) (e tm)=onB _ _ (e tm)
   rw[ha tm h,hb tm h]
 | .block id c,env,env',k,k',ok,he,hk=>by
  refine Ab5 hr c ((id,k)::env) ((id,k')::env') k k' ok (fun j=>?_) hk
  show Eqv (As (Nat.beq id j) k _) (As (Nat.beq id j) k' _)
  cases Nat.beq id j with
  | true=>exact hk
  | false=>exact he j
 | .loop c,env,env',k,k',ok,he,hk=>by
  show Eqv (Ala (fun ih=>Py T call round fuel fn n none (fun _=>Dc) ret c env ih) fuel) (I0 (fun ih=>H6 T call call round fuel n ret' c env' ih) fuel)
  have:∀ m,Eqv (Ala (fun ih=>Py T call round fuel fn n none (fun _=>Dc) ret c env ih) m) (I0 (fun ih=>H6 T call call round fuel n ret' c env' ih) m):=fun m=>by
   induction m with
   | zero=>exact fun _ _=>rfl
   | succ m ih=>exact Ab5 hr c env env' _ _ ok he ih
  exact this fuel
 | .rangeFunc ..,_,_,_,_,ok,_,_=>by cases ok
 | .exit id,env,env',k,k',_,he,hk=>he id
 | .scope _,_,_,_,_,_,_,_=>fun _ _=>rfl
 | .label _,_,_,_,_,_,_,hk=>hk
 | .goto _,_,_,_,_,_,_,_=>fun _ _=>rfl
 | .ret,_,_,_,_,_,_,_=>hr
 | .refuse _,_,_,_,_,_,_,_=>fun _ _=>rfl
theorem A57(T:Et)(res:List ResultVar):Eqv (Al8 T res) (A38 T res):=fun tm h=>by
 show Aki T res tm h=_
 have gen:Aki T res tm h=Cx T (res.map (rvD (tmp tm))) h:=by
  rw[A3s]
  have:Ajw tm=rvD (tmp tm):=funext fun x=>by cases x <;> rfl
  rw[this]
 unfold A38
 split
 ·simp only[Aki,Abc]
 ·rfl
 ·simp only[Aki,Abc]
 ·exact gen
theorem Azy:∀ (l:List EV) (i:Nat) (tm:Ai),tmp (Uf l i tm)=Aoo l i (tmp tm)
 | [],_,_=>rfl
 | v::r,i,tm=>by
  show tmp (Uf r (Nat.succ i) (Nt (pathOf i) (some v) tm))=Aoo r (Nat.succ i) (A0i (tmp tm) i v)
  rw[Azy r,Aj0,Az7]
theorem A9l {T:Et}{call round:Ad}{fuel f:Nat}(ok:okF T f=true)(args:List EV)(h:Aa):Ag4 T call round fuel f args h=A8v T call call round fuel f args h:=by
 unfold okF at ok
 unfold Ag4 A8v
 cases hf:T.fn f with
 | none=>rfl
 | some fn=>
  rw[hf]at ok
  obtain⟨name,origin,targs,params,rts,nfree,n,results,body,nr,ours,file,el,ln,met,tn⟩:=fn
  cases body with
  | none=>rfl
  | some c=>
   simp only at ok ⊢
   show As (Nat.ble (Gx args) n) (Py T call round fuel f n none (fun _=>Dc) (Al8 T results.toList) c [] (Al8 T results.toList) (Uf args 0 .nil) h []) none=_
   cases Nat.ble (Gx args) n with
   | false=>rfl
   | true=>
    show Py T call round fuel f n none (fun _=>Dc) (Al8 T results.toList) c [] (Al8 T results.toList) (Uf args 0 .nil) h []=_
    rw[Ab5 (A57 T _) c [] [] _ _ ok (fun _ _ _=>rfl) (A57 T _),Azy]
    rfl
end Go.Ev

namespace Go.Ev
noncomputable section
inductive Hk where
 | no
 | here (X:CD)
 | two (a b:Hk)
abbrev Hk.l(H:Hk):Hk:=match H with | .two a _=>a|_=>.no
abbrev Hk.r(H:Hk):Hk:=match H with | .two _ b=>b|_=>.no
section
variable (T:Et)(call callV round:Ad)(fuel n:Nat)(ret:CD)
abbrev N3(H:Hk):Code->Am3->CD->CD:=
 @Hk.rec (fun _=>Code->Am3->CD->CD) (fun c env k=>H6 T call callV round fuel n ret c env k) (fun X _ _ _=>X)
  (fun _ _ a b c env k=>match c with
   | .seq x y=>a x env (b y env k)
   | .cond v x y=>fun ρ h=>match Dh ρ v with|some e=>De e (a x env k ρ h) (b y env k ρ h)|none=>none
   | .block id x=>a x ((id,k)::env) k
   | c=>H6 T call callV round fuel n ret c env k) H
abbrev atH(p:List Bool):Hk->Code->Am3->CD->CD:=
 @List.rec Bool (fun _=>Hk->Code->Am3->CD->CD) (fun _ c env k=>H6 T call callV round fuel n ret c env k)
  (fun s _ ih H c env k=>match c with
   | .seq x y=>As s (ih H.r y env k) (ih H.l x env (N3 T call callV round fuel n ret H.r y env k))
   | .cond _ x y=>As s (ih H.r y env k) (ih H.l x env k)
   | .block id x=>ih H.l x ((id,k)::env) k
   | c=>H6 T call callV round fuel n ret c env k) p
end
abbrev Av9(p:List Bool)(X:CD):Hk->Hk:=
 @List.rec Bool (fun _=>Hk->Hk) (fun _=>.here X) (fun s _ ih H=>As s (.two H.l (ih H.r)) (.two (ih H.l) H.r)) p
def An8(p:List Bool):Hk->Code->Bool:=
 @List.rec Bool (fun _=>Hk->Code->Bool) (fun H _=>match H with | .no=>true|_=>false)
  (fun s _ ih H c=>match H with
   | .here _=>false
   | H=>match c with
    | .seq x y=>As s (ih H.r y) (ih H.l x)
    | .cond _ x y=>As s (ih H.r y) (ih H.l x)
    | .block _ x=>As s false (ih H.l x)
    | _=>false) p
def Bcs(p:List Bool):Code->Code:=
 @List.rec Bool (fun _=>Code->Code) (fun c=>c) (fun s _ ih c=>match c with
  | .seq x y=>As s (ih y) (ih x)
  | .cond _ x y=>As s (ih y) (ih x)
  | .block _ x=>ih x
  | .loop x=>ih x
  | c=>c) p
abbrev Ak0(T:Et)(g:Nat):Code:=match T.fn g with|some { body:=some c,.. }=>c|_=>.skip
abbrev nOf(T:Et)(g:Nat):Nat:=match T.fn g with|some f=>f.ntmps|_=>0
abbrev F2(T:Et)(g:Nat):CD:=match T.fn g with|some f=>A38 T f.results.toList|_=>fun _ _=>none
abbrev u0:VS:=fun _=>.tuple []
abbrev Sb(T:Et)(g:Nat)(p:List Bool):Code:=match Bcs p (Ak0 T g) with | .loop c=>c|c=>c
end
section
variable {T:Et}{call callV round:Ad}{fuel n:Nat}{ret:CD}
theorem A0z(H:Hk)(hn:∀ X,H ≠ .here X)(c:Code)(env:Am3)(k:CD):N3 T call callV round fuel n ret H c env k=N3 T call callV round fuel n ret (.two H.l H.r) c env k:=by
 cases H with
 | no=>cases c <;> rfl
 | here X=>exact(hn X rfl).elim
 | two a b=>rfl
theorem Wo(X:CD):∀ (p:List Bool) (H:Hk) (c:Code) (env:Am3) (k:CD),An8 p H c=true->atH T call callV round fuel n ret p H c env k=X->N3 T call callV round fuel n ret H c env k=N3 T call callV round fuel n ret (Av9 p X H) c env k
 | [],H,c,env,k,hf,e=>by
  cases H with
  | no=>exact e
  | here _=>cases hf
  | two _ _=>cases hf
 | s::p,H,c,env,k,hf,e=>by
  have hn:∀ Y,H ≠ .here Y:=fun Y y=>by subst y;cases hf
  have hs:Av9 (s::p) X H=As s (.two H.l (Av9 p X H.r)) (.two (Av9 p X H.l) H.r):=rfl
  rw[A0z H hn,hs]
  have hc:∃ x y id v,c=.seq x y\/c=.cond v x y\/c=.block id x:=by
   cases H with
   | here Y=>exact(hn Y rfl).elim
   | no=>cases c <;> first|exact⟨_,_,0,default,.inl rfl⟩|exact⟨_,_,0,_,.inr (.inl rfl)⟩|exact⟨_,.skip,_,default,.inr (.inr rfl)⟩|cases hf
   | two a b=>cases c <;> first|exact⟨_,_,0,default,.inl rfl⟩|exact⟨_,_,0,_,.inr (.inl rfl)⟩|exact⟨_,.skip,_,default,.inr (.inr rfl)⟩|cases hf
  obtain⟨x,y,id,v,rfl|rfl|rfl⟩:=hc
  ·have hf':As s (An8 p H.r y) (An8 p H.l x)=true:=by cases H <;> first|exact hf|exact(hn _ rfl).elim
   have e':As s (atH T call callV round fuel n ret p H.r y env k) (atH T call callV round fuel n ret p H.l x env (N3 T call callV round fuel n ret H.r y env k))=X:=e
   cases s with
   | true=>show N3 T call callV round fuel n ret H.l x env (N3 T call callV round fuel n ret H.r y env k)=N3 T call callV round fuel n ret H.l x env (N3 T call callV round fuel n ret (Av9 p X H.r) y env k);rw[Wo X p H.r y env k hf' e']
   | false=>exact Wo X p H.l x env _ hf' e'
  ·have hf':As s (An8 p H.r y) (An8 p H.l x)=true:=by cases H <;> first|exact hf|exact(hn _ rfl).elim
   have e':As s (atH T call callV round fuel n ret p H.r y env k) (atH T call callV round fuel n ret p H.l x env k)=X:=e
   cases s with
   | true=>
    show (fun ρ h=>match Dh ρ v with|some e=>De e (N3 T call callV round fuel n ret H.l x env k ρ h) (N3 T call callV round fuel n ret H.r y env k ρ h)|none=>none)=fun ρ h=>match Dh ρ v with|some e=>De e (N3 T call callV round fuel n ret H.l x env k ρ h) (N3 T call callV round fuel n ret (Av9 p X H.r) y env k ρ h)|none=>none
    rw[Wo X p H.r y env k hf' e']
   | false=>
    show (fun ρ h=>match Dh ρ v with|some e=>De e (N3 T call callV round fuel n ret H.l x env k ρ h) (N3 T call callV round fuel n ret H.r y env k ρ h)|none=>none)=fun ρ h=>match Dh ρ v with|some e=>De e (N3 T call callV round fuel n ret (Av9 p X H.l) x env k ρ h) (N3 T call callV round fuel n ret H.r y env k ρ h)|none=>none
    rw[Wo X p H.l x env k hf' e']
  ·have hf':As s false (An8 p H.l x)=true:=by cases H <;> first|exact hf|exact(hn _ rfl).elim
   cases s with
   | true=>cases hf'
   | false=>exact Wo X p H.l x _ k hf' e
theorem cut(p:List Bool){H:Hk}{c:Code}{env:Am3}{k X Y Z:CD}(e:Y=X)(hf:An8 p H c=true)(ha:atH T call callV round fuel n ret p H c env k=Y)(rest:N3 T call callV round fuel n ret (Av9 p X H) c env k=Z):
 N3 T call callV round fuel n ret H c env k=Z:=(Wo X p H c env k hf (ha.trans e)).trans rest
theorem C3 {B:CD->CD}{E:Nat->CD}(h0:E 0=fun _ _=>none)(hs:∀ m,B (E m)=E (m+1)):∀ m,I0 B m=E m
 | 0=>h0.symm
 | m+1=>by
  show B (I0 B m)=_
  rw[C3 h0 hs m,hs]
theorem Se {A B:CD}(e:∀ ρ h,A ρ h=B ρ h):A=B:=funext fun ρ=>funext fun h=>e ρ h
end
noncomputable section
abbrev w0(g:Nat)(f:Aa->R)(c:Ad):Ad:=fun g' xs h=>As (Nat.beq g g') (@List.rec EV (fun _=>R) (f h) (fun _ _ _=>c g' xs h) xs) (c g' xs h)
abbrev w1(g:Nat)(f:EV->Aa->R)(c:Ad):Ad:=fun g' xs h=>As (Nat.beq g g') (match xs with | [a]=>f a h|xs=>c g' xs h) (c g' xs h)
abbrev w2(g:Nat)(f:EV->EV->Aa->R)(c:Ad):Ad:=fun g' xs h=>As (Nat.beq g g') (match xs with | [a,b]=>f a b h|xs=>c g' xs h) (c g' xs h)
abbrev w3(g:Nat)(f:EV->EV->EV->Aa->R)(c:Ad):Ad:=fun g' xs h=>As (Nat.beq g g') (match xs with | [a,b,d]=>f a b d h|xs=>c g' xs h) (c g' xs h)
abbrev w4(g:Nat)(f:EV->EV->EV->EV->Aa->R)(c:Ad):Ad:=fun g' xs h=>As (Nat.beq g g') (match xs with | [a,b,d,e]=>f a b d e h|xs=>c g' xs h) (c g' xs h)
abbrev w5(g:Nat)(f:EV->EV->EV->EV->EV->Aa->R)(c:Ad):Ad:=fun g' xs h=>As (Nat.beq g g') (match xs with | [a,b,d,e,i]=>f a b d e i h|xs=>c g' xs h) (c g' xs h)
end
section
variable {c x:Ad}{g:Nat}
theorem W0 {f:Aa->R}(e:∀ h,c g [] h=f h)(y:c=x):c=w0 g f x:=by
 subst y;funext g' xs h;show _=As (Nat.beq g g') _ _
 cases hb:Nat.beq g g' with
 | false=>rfl
 | true=>have:=Nat.eq_of_beq_eq_true hb;subst this;cases xs <;> first|exact e h|rfl
theorem W1 {f:EV->Aa->R}(e:∀ a h,c g [a] h=f a h)(y:c=x):c=w1 g f x:=by
 subst y;funext g' xs h;show _=As (Nat.beq g g') _ _
 cases hb:Nat.beq g g' with
 | false=>rfl
 | true=>have:=Nat.eq_of_beq_eq_true hb;subst this;show c g xs h=(match xs with | [a]=>f a h|xs=>c g xs h);split <;> first|exact e _ h|rfl
theorem W2 {f:EV->EV->Aa->R}(e:∀ a b h,c g [a,b] h=f a b h)(y:c=x):c=w2 g f x:=by
 subst y;funext g' xs h;show _=As (Nat.beq g g') _ _
 cases hb:Nat.beq g g' with
 | false=>rfl
 | true=>have:=Nat.eq_of_beq_eq_true hb;subst this;show c g xs h=(match xs with | [a,b]=>f a b h|xs=>c g xs h);split <;> first|exact e _ _ h|rfl
theorem W3 {f:EV->EV->EV->Aa->R}(e:∀ a b d h,c g [a,b,d] h=f a b d h)(y:c=x):c=w3 g f x:=by
 subst y;funext g' xs h;show _=As (Nat.beq g g') _ _
 cases hb:Nat.beq g g' with
 | false=>rfl
 | true=>have:=Nat.eq_of_beq_eq_true hb;subst this;show c g xs h=(match xs with | [a,b,d]=>f a b d h|xs=>c g xs h);split <;> first|exact e _ _ _ h|rfl
theorem W4 {f:EV->EV->EV->EV->Aa->R}(e:∀ a b d i h,c g [a,b,d,i] h=f a b d i h)(y:c=x):c=w4 g f x:=by
 subst y;funext g' xs h;show _=As (Nat.beq g g') _ _
 cases hb:Nat.beq g g' with
 | false=>rfl
 | true=>have:=Nat.eq_of_beq_eq_true hb;subst this;show c g xs h=(match xs with | [a,b,d,e]=>f a b d e h|xs=>c g xs h);split <;> first|exact e _ _ _ _ h|rfl
theorem W5 {f:EV->EV->EV->EV->EV->Aa->R}(e:∀ a b d i j h,c g [a,b,d,i,j] h=f a b d i j h)(y:c=x):c=w5 g f x:=by
 subst y;funext g' xs h;show _=As (Nat.beq g g') _ _
 cases hb:Nat.beq g g' with
 | false=>rfl
 | true=>have:=Nat.eq_of_beq_eq_true hb;subst this;show c g xs h=(match xs with | [a,b,d,e,i]=>f a b d e i h|xs=>c g xs h);split <;> first|exact e _ _ _ _ _ h|rfl
end
noncomputable def A8u(T:Et)(g n:Nat):Bool:=As (okF T g) (Nat.ble n (nOf T g)) false
theorem A01 {T:Et}{c r:Ad}{K g:Nat}{args:List EV}(hk:A8u T g (Gx args)=true)(h:Aa):Ag4 T c r K g args h=N3 T c c r K (nOf T g) (F2 T g) .no (Ak0 T g) [] (F2 T g) (Aoo args 0 u0) h:=by
 obtain⟨h1,h2⟩:=Rb hk
 rw[A9l h1]
 unfold okF at h1
 unfold nOf at h2
 unfold A8v nOf F2 Ak0
 cases hf:T.fn g with
 | none=>rw[hf]at h1;try cases h1
 | some fn=>
  rw[hf]at h1 h2
  obtain⟨name,origin,targs,params,rts,nfree,n,results,body,nr,ours,file,el,ln,met,tn⟩:=fn
  cases body with
  | none=>cases h1
  | some c0=>
   show As (Nat.ble (Gx args) n) _ none=_
   rw[show Nat.ble (Gx args) n=true from h2]
   rfl
end Go.Ev
