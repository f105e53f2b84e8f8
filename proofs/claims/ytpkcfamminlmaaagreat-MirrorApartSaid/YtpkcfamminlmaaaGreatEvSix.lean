import Derived.Test.YtpkcfamminlmaaaGreatEvFive
set_option linter.unusedVariables false
set_option linter.unusedSimpArgs false
set_option linter.unusedSectionVars false
namespace Go.Ev
noncomputable section
def Ags(h:Aa)(i:Nat):Option Cn:=Fq (pathOf i) h.t
end
end Go.Ev

namespace Go.Ev
theorem Sa(tm:Ah)(j i:Nat)(v:EV):tmp (tm.put j (some v)) i=if j=i then v else tmp tm i:=by
 unfold tmp;rw[Tr.get_put];by_cases h:j=i <;> simp[h]
theorem G0 {k:Ah->Option EV}{i:Nat}(h:k=Fq (pathOf i))(tm:Ah):gO k tm=tmp tm i:=by
 subst h;exact Yy tm i
theorem Gz {p:PF}{i:Nat}(h:p=Mn (pathOf i))(v:Option EV)(tm:Ah):p v tm=tm.put i v:=by
 subst h;exact Aft tm i v
noncomputable def As(v:EV)(w:Bool):Bool:=match v with | .bool b=>Ao b w (Z6 w)|_=>false
theorem B6 {k:Ah->Option EV}{i:Nat}(h:k=Fq (pathOf i))(w:Bool)(tm:Ah):Cx k w tm=As (tmp tm i) w:=by
 subst h
 unfold Cx As tmp
 rw[Ai9]
 cases tm.get i with
 | none=>rfl
 | some v=>cases v <;> rfl
abbrev I(n:Int):EV:=.int .i64 n
abbrev N(n:Nat):EV:=.int .i64 (.ofNat n)
theorem Afw(a b:Int):ltI a b=decide (a<b):=by
 rw[Asw]
 cases a <;> cases b <;> simp only[ltB]
 ·rename_i a b;rw[Bool.eq_iff_iff,decide_eq_true_iff];simp[Nat.ble_eq];omega
 ·rename_i a b;symm;rw[decide_eq_false_iff_not];simp only[Int.ofNat_eq_natCast];omega
 ·rename_i a b;symm;rw[decide_eq_true_iff];simp only[Int.ofNat_eq_natCast];omega
 ·rename_i a b;rw[Bool.eq_iff_iff,decide_eq_true_iff];simp[Nat.ble_eq];omega
theorem Avl(a b:Int):eqI a b=decide (a=b):=by
 rw[A00]
 cases a <;> cases b <;> simp only[eqB]
 ·rw[Bool.eq_iff_iff,decide_eq_true_iff];simp[Nat.beq_eq];omega
 ·simp
 ·simp
 ·rw[Bool.eq_iff_iff,decide_eq_true_iff];simp[Nat.beq_eq]
theorem Akf(p:Prop)[Decidable p]:Z6 (decide p)=decide (¬ p):=by by_cases h:p <;> simp[h,Z6]
theorem Axb(a b:Int):A3r a b=a+b:=Avd a b
theorem At5(a b:Int):A3t a b=a-b:=Au0 a b
theorem Ang {n:Int}(h1 : -9223372036854775808<=n)(h2:n<9223372036854775808):Cv .i64 n=n:=by
 unfold Cv
 split
 ·rename_i m
  have:Nat.ble (Nat.succ m) (lid .i64)=true:=Nat.ble_eq_true_of_le (show m+1<=9223372036854775808 by simp only[Int.ofNat_eq_natCast]at h2;omega)
  rw[this,Ai]
 ·rename_i m
  have:Nat.ble (Nat.succ m) (floor .i64)=true:=Nat.ble_eq_true_of_le (show m+1<=9223372036854775808 by simp only[Int.negSucc_eq]at h1;omega)
  rw[this,Ai]
theorem Ae(h:Aa)(o:Cn):(h.new o).get h.next=some o:=by rw[Aa.H9,if_pos rfl]
theorem Bm {h:Aa}(o:Cn){i:Nat}(hi:i<h.next):(h.new o).get i=h.get i:=by rw[Aa.H9,if_neg (by omega)]
theorem Aj(h:Aa)(i:Nat)(o:Cn):(h.put i o).get i=some o:=by rw[Aa.get_put,if_pos rfl]
theorem Ar {h:Aa}{i j:Nat}(o:Cn)(hi:i ≠ j):(h.put i o).get j=h.get j:=by rw[Aa.get_put,if_neg hi]
theorem Ato {h:Aa}{i j:Nat}(hi:i ≠ j):(h.del i).get j=h.get j:=by rw[Aa.Rk,if_neg hi]
theorem A2h {α:Type}(p:Prop)[Decidable p](x y:α):Ao (decide p) x y=if p then x else y:=by by_cases h:p <;> simp[h]
end Go.Ev


namespace Go.Ev
theorem Asg {l:List EV}{n:Nat}(h:n<=l.length):takeN l n=some (l.take n):=by
 induction l generalizing n with
 | nil=>
  have:n=0:=by simpa using h
  subst this;rfl
 | cons a r ih=>
  cases n with
  | zero=>rfl
  | succ n=>
   simp only[takeN]
   rw[show Nat.beq (n+1) 0=false from rfl,Aw,Nat.pred_succ,ih (by simpa using h)]
   rfl
theorem Im {l:List EV}{off n:Nat}(h:off+n<=l.length):Oh l off n=some ((l.drop off).take n):=by
 rw[Ts,Mb,Asg (by rw[List.length_drop];omega)]
theorem Agf:∀ (l:List EV) (n:Nat),Ahf l n=l[n]?
 | [],n=>rfl
 | a::r,0=>rfl
 | a::r,n+1=>by
  have e:Ahf (a::r) (n+1)=Ahf r n:=rfl
  rw[e,Agf r n];simp
theorem Anl(v:EV):∀ (l:List EV) (n:Nat),n<l.length->L5 l n [v]=some (l.set n v)
 | [],n,h=>by simp at h
 | a::r,n,h=>by
  rw[Si]
  cases n with
  | zero=>cases r <;> rfl
  | succ n=>
   have e:Eu (a::r) (n+1) [v]=(match Eu r n [v] with|some x=>some (a::x)|none=>none):=rfl
   rw[e,<-Si,Anl v r n (by simpa using h)]
   rfl
theorem Ch(l:List EV):Je l=l.length:=by rw[V8,Oj]
theorem Cd {l vs:List EV}(h:l.length=vs.length):L5 l 0 vs=some vs:=by
 unfold L5
 rw[Ch,Ch,h,show Nat.beq 0 0=true from rfl,Ai,show Nat.beq vs.length vs.length=true from Nat.beq_refl _,Ai]
section
variable {e a x:EF}{k:KF}{tm:Ah}{h h':Aa}{ds:List Nat}{i off n:Nat}{l:List EV}{v:EV}
end
noncomputable section
def Zr(x:Option Cn)(off n:Nat):Option (List EV):=U1 (fun l o=>Oh l o n) off x
def Ap(g:IG)(f:EV->EV->Option EV)(x y:EV)(k:EV->R):R:=
 match x,y with
 | .int c x,.int c' y=>Ao (Nat.beq (Lw c) (Lw c')) (k (g c x y)) none
 | x,y=>oB k (f x y)
def Am(x:EV)(h:Aa)(k:EV->R):R:=K1 (fun i off=>oB (fun l=>match l with | [v]=>k v|_=>none) (Zr (h.get i) off 1)) x
def B8(n:Nat)(x:EV)(h:Aa)(k:EV->R):R:=K1 (fun i off=>oB (fun l=>k (.agg l)) (Zr (h.get i) off n)) x
def Jf(n:Nat)(a v:EV)(h:Aa)(k:Aa->R):R:=K1 (fun i off=>Ao v.plain (Ao (Nat.beq (Je v.cells) n) (Ty h i (fun l=>L5 l off v.cells) k) none) none) a
def Ix(s:Nat)(x ix:EV)(k:EV->R):R:=Atn (fun j=>match x with | .slice i off len _ _=>Ao (Nat.ble (Nat.succ j) len) (k (.ptr i (Nat.add off (Nat.mul j s)))) none|_=>none) ix
end
section
variable {e a b x ix:EF}{k:KF}{c1 c2:CF}{tm:Ah}{h:Aa}{ds:List Nat}{n m s:Nat}{g:IG}{f:EV->EV->Option EV}
theorem A27(c:IntKind)(a b:Int):Ih c a b=.bool (ltI a b):=rfl
theorem A29(c:IntKind)(a b:Int):Aab c a b=.bool (Z6 (ltI b a)):=rfl
theorem A2e(c:IntKind)(a b:Int):Tz c a b=.bool (ltI b a):=rfl
theorem A15(c:IntKind)(a b:Int):Vj c a b=.bool (Z6 (ltI a b)):=rfl
theorem A3h(c:IntKind)(a b:Int):Gj c a b=.bool (eqI a b):=rfl
theorem A2s(c:IntKind)(a b:Int):La c a b=.bool (Z6 (eqI a b)):=rfl
theorem A2u(c:IntKind)(a b:Int):Ip c a b=.int c (Cv c (A3r a b)):=rfl
theorem A5h:Z6 true=false:=rfl
theorem Amr:Xa e k tm h ds=Am (e tm) h (fun v=>k v tm h ds):=by
 unfold Xa Am K1
 cases e tm <;> try rfl
 rename_i i off
 simp only
 have key:∀ (L:List EV) (o:Nat),oB (fun v=>k v tm h ds) (Ahf L o)=oB (fun l=>match l with | [v]=>k v tm h ds|_=>none) (Oh L o 1):=by
  intro L o
  rw[Agf,<-List.head?_drop,Ts,Mb]
  cases L.drop o with
  | nil=>rfl
  | cons b r=>cases r <;> rfl
 unfold Zr U1
 cases h.get i with
 | none=>rfl
 | some x=>
  cases x <;> try rfl
  ·exact key _ _
  ·exact key _ _
  ·rename_i ws r0
   simp only
   cases Vn ws off with
   | none=>rfl
   | some x=>exact key _ _
theorem Ana:Apk n e k tm h ds=B8 n (e tm) h (fun v=>k v tm h ds):=by
 unfold Apk B8 K1
 cases e tm <;> try rfl
 rename_i i off
 simp only
 unfold Zr U1
 cases h.get i with
 | none=>rfl
 | some x=>
  cases x <;> try rfl
  rename_i ws r0
  simp only
  cases Vn ws off <;> rfl
theorem Amn {i:Nat}{l:List EV}{t:TypeId}(hg:h.get i=some (.cells l t))(F:List EV->Option (List EV))(k:Aa->R):Ty h i F k=oB (fun l'=>k (h.put i (.cells l' t))) (F l):=by
 unfold Ty;rw[hg]
theorem Am3:Akl s e ix k tm h ds=Ix s (e tm) (ix tm) (fun v=>k v tm h ds):=by
 unfold Akl Ix
 cases e tm <;> rfl
theorem A2l {q off ln rm:Nat}{op:Bool}{j:Nat}(hj:j<ln)(k:EV->R)(c:IntKind):Ix s (.slice q off ln rm op) (.int c (.ofNat j)) k=k (.ptr q (off+j*s)):=by
 show Ao (Nat.ble (Nat.succ j) ln) _ none=_
 rw[Nat.ble_eq_true_of_le hj,Ai];rfl
theorem As2(c:CF->CF)(m:Nat):Aib c (m+1)=c (Aib c m):=rfl
end
end Go.Ev

namespace Go.Ev
def Has(h:Aa)(l:List (Nat × Cn)):Prop:=∀ x ∈ l,h.get x.1=some x.2/\x.1<h.next
theorem Has.nil(h:Aa):Has h []:=fun _ hx=>by cases hx
section
variable {T:D4}{call round:Ac}{K:Nat}
theorem Abz {disp:Nat->Option FT}{g:Nat}{F:FT}(h:disp g=some F)(d:Nat)(args:List EV)(hp:Aa):
 Af T disp K (d+1) false g args hp=F (Af T disp K d false) (Af T disp K d true) K args hp:=by
 have e:Af T disp K (d+1) false g args hp = @Option.rec FT (fun _=>FnT) (Aef T (Af T disp K d false) (Af T disp K d true) K g) (fun F=>F (Af T disp K d false) (Af T disp K d true) K) (disp g) args hp:=rfl
 rw[e,h]
theorem Ahy(disp:Nat->Option FT)(d l:Nat)(args:List EV)(hp:Aa):
 Af T disp K (d+1) true l args hp=Aeb T (Af T disp K d false) (Af T disp K d true) K l args hp:=rfl
theorem Avk {n:Nat}{c:CF}{args:List EV}(hn:args.length<=n)(h:Aa):Axf n c args h=c (setArgs args 0 .nil) h []:=by
 unfold Axf
 rw[Ch,Nat.ble_eq_true_of_le hn,Ai,Aby]
variable {g n i t:Nat}{out:Nat->CF}{env:Env}{ret k:CF}{tm:Ah}{h:Aa}{ds:List Nat}
end
end Go.Ev

namespace Go.Ev
set_option maxRecDepth 100000
noncomputable section
def Bg(c a b:EV)(k:EV->R):R:=onB (k a) (k b) c
def N1(f:EV->EV->Option EV)(a b:EV)(k:EV->R):R:=oB k (f a b)
def Sz(v:EV)(k:EV->R):R:=onB (k (.bool false)) (k (.bool true)) v
def Ao9(v:EV)(k:EV->R):R:=match v with | .int c n=>k (.int c (Cv c (Int.sub 0 n)))|_=>none
def Bj(v:EV)(k:EV->R):R:=K1 (fun i o=>k (.ptr i o)) v
def An(c:Nat)(v:EV)(k:EV->R):R:=K1 (fun i o=>k (.ptr i (Nat.add o c))) v
def Aiw(len s:Nat)(v ix:EV)(k:EV->R):R:=Atn (fun j=>K1 (fun i off=>Ao (Nat.ble (Nat.succ j) len) (k (.ptr i (Nat.add off (Nat.mul j s)))) none) v) ix
def A02(len s:Nat)(agg:Bool)(n:Nat)(v ix:EV)(k:EV->R):R:=Atn (fun j=>Aqm (fun cs=>Ao (Nat.ble (Nat.succ j) len) (Anb agg n cs (Nat.mul j s) k) none) v) ix
def Aei(off:Nat)(agg:Bool)(n:Nat)(v:EV)(k:EV->R):R:=Aqm (fun cs=>Anb agg n cs off k) v
def O7(c:IntKind)(v:EV)(k:EV->R):R:=Azs (fun _ n=>k (.int c (Cv c n))) v
def Cq(ix:Nat)(v:EV)(k:EV->R):R:=A0x (fun l=>oB k (Ahf l ix)) v
def Mo(o:Cn)(h:Aa)(k:EV->Aa->R):R:=k (.ptr h.next 0) (h.new o)
def E3(t:TypeId)(v:EV)(h:Aa)(k:EV->Aa->R):R:=Ao v.plain (k (.ptr h.next 0) (h.new (.cells v.cells t))) none
def Ho(v:EV)(k:EV->R):R:=oB (fun n=>k (.int .i64 (.ofNat n))) (lenOf v)
def Al(x:R)(k:EV->Aa->R):R:=oB (Afs k) x
def V2(c r:Ac)(f:EV)(args:List EV)(h:Aa):R:=match f with
 | .func g a cs=>c g (Atr a (Atr args cs)) h
 | .Vv l=>r l args h
 | _=>none
def C0(place:Nat->Option (Nat × Nat))(z:List EV)(ps:List (Nat × EV))(k:EV->R):R:=oB (fun c=>k (.agg c)) (Uw place ps z)
def Af8(n:Nat)(v:EV)(k:EV->R):R:=match v with | .slice i off len _ _=>Ao (Nat.ble n len) (k (.ptr i off)) none|_=>none
def Apa(s:Nat)(v:EV)(lo hi mx:Option EV)(k:EV->R):R:=oB k (slc v s lo hi mx)
def Us(n s:Nat)(v:EV)(lo hi mx:Option EV)(k:EV->R):R:=K1 (fun i off=>oB k (slc (.slice i off n n false) s lo hi mx)) v
def Zc(z:List EV)(e:TypeId)(l c:EV)(h:Aa):R:=Ze z e (fun _=>l) (fun _=>c) .nil h
def B3(z:List EV)(e:TypeId)(s n:Nat)(ps:List (Nat × EV))(h:Aa):R:=Ru z e s n (fun _=>ps) .nil h
def Agg(h:Aa):R:=some (.map h.next,h.new (.map []))
def Acs(s:EV)(h:Aa):R:=Aco (fun _=>s) .nil h
def Afd(T:D4)(kt e:TypeId)(ok:Bool)(m ix:EV)(h:Aa):R:=Ajc T kt e ok (fun _=>m) (fun _=>ix) .nil h
def U7(T:D4)(kt:TypeId)(m ix x:EV)(h:Aa):R:=Zh T kt (fun _=>m) (fun _=>ix) (fun _=>x) .nil h
def Ak2(c x:EV)(h:Aa):R:=Amw (fun _=>c) (fun _=>x) .nil h
def Akc(z:EV)(c:EV)(h:Aa):R:=Amt z (fun _=>c) .nil h
def Aou(c:EV)(h:Aa):R:=Aoe (fun _=>c) .nil h
def Fg(v:EV)(x y:R):R:=onB x y v
inductive RV where
 | v (x:EV)
 | c (a:EV) (t:TypeId)
def Agq(tm:Ah):ResultVar->RV
 | .tmp t=>.v (tmp tm t)
 | .cell a t=>.c (tmp tm a) t
def Aml(T:D4)(h:Aa):List RV->Option (List EV)
 | []=>some []
 | .v x::r=>match Aml T h r with|some l=>some (x::l)|none=>none
 | .c a t::r=>match a,Aml T h r,T.size t with
  | .ptr i off,some l,some n=>match Gq h i off n with
   | some cs=>match T.agg t with
    | some true=>some (.agg cs::l)
    | some false=>(match cs with | [v]=>some (v::l)|_=>none)
    | none=>none
   | none=>none
  | _,_,_=>none
def H3(T:D4)(l:List RV)(h:Aa):R:=match Aml T h l with|some [v]=>some (v,h)|some l=>some (.tuple l,h)|none=>none
def Ao6(l:Nat)(v:Bool)(st:LoopState)(jump:Option Code)(h:Aa):R:=Bw l v st jump .nil h []
def I0(l:Nat)(h:Aa)(k:Aa->R):R:=match h.get l with
 | some (.loop .ready p f n' tm' ps asg body d)=>k (h.put l (.loop .busy p f n' tm' ps asg body d))
 | _=>none
def A2y(l:Nat)(r:R)(k:Aa->R)(ex:Nat->Aa->R)(ret:Aa->R):R:=match r with
 | none=>none
 | some (_,h)=>match h.get l with
  | some (.loop st p f n' tm' ps asg body d)=>match st with
   | .busy=>none
   | _=>match p with
    | none=>k (h.put l (.loop .exhausted p f n' tm' ps asg body d))
    | some (.exit id)=>ex id (h.put l (.loop .exhausted p f n' tm' ps asg body d))
    | some .ret=>ret (h.put l (.loop .exhausted p f n' tm' ps asg body d))
    | some _=>none
  | _=>none
def Abc(c:Ac)(T:D4)(g n i:Nat)(f:EV)(tm:Ah)(h:Aa)(ds:List Nat)(k:Aa->List Nat->R)(ex:Nat->Aa->List Nat->R)(ret:Aa->List Nat->R):R:=match f with
 | .func q first captured=>A2y (Nat.succ h.next) (c q (first++(.Vv (Nat.succ h.next)::captured)) ((h.new (.deferred true)).new (.loop .ready none g n tm (D1 T g i).2.1 (D1 T g i).2.2.1 (D1 T g i).2.2.2 h.next)))
  (fun h'=>k h' (h.next::ds)) (fun id h'=>ex id h' (h.next::ds)) (fun h'=>ret h' (h.next::ds))
 | _=>none
def Ajf(c:Ac)(T:D4)(g n i l0:Nat)(f:EV)(tm:Ah)(h:Aa)(ds:List Nat)(k:Aa->List Nat->R)(ex:Nat->Aa->List Nat->R)(ret:Aa->List Nat->R):R:=match f with
 | .func q first captured=>match h.get l0 with
  | some (.loop _ _ _ _ _ _ _ _ d)=>A2y h.next (c q (first++(.Vv h.next::captured)) (h.new (.loop .ready none g n tm (D1 T g i).2.1 (D1 T g i).2.2.1 (D1 T g i).2.2.2 d)))
   (fun h'=>k h' ds) (fun id h'=>ex id h' ds) (fun h'=>ret h' ds)
  | _=>none
 | _=>none
def Gn(h:Aa)(k:Nat->DX->R):R:=k h.next ⟨0,[],[],[],[]⟩
def A9(i b base:Nat)(x:EV)(s:DX)(k:DX->R):R:=K1 (fun q _=>Ao (Ab5 b base q s) (k (s.ld i q)) none) x
def Ad6(i:Nat)(h:Aa)(s:DX)(k:DX->R):R:=k (s.new i h.next)
def Ac3(i b:Nat)(x:EV)(s:DX)(k:DX->R):R:=K1 (fun q _=>Ao (Ahz b q s) (k (s.X7 i q)) none) x
def A5y(h:Aa)(k:Aa->R):R:=k ⟨.nil,h.next,h.next⟩
def Cs(i b:Nat)(s:DX)(h:Aa)(call:Aa->R)(k:EV->Aa->DX->R):R:=Ao (Uh b s) (Al (call (Hf b s h)) fun v h'=>Jy i b s h h' fun s h=>k v h s) none
end
section
variable {e a b x y ix lo':EF}{k:KF}{c1 c2:CF}{tm:Ah}{h:Aa}{ds:List Nat}{T:D4}{call round:Ac}
theorem Ajx(place:Nat->Option (Nat × Nat))(z:List EV)(ps:Ah->List (Nat × EV)):Wm (Ak1 place z ps) k tm h ds=C0 place z (ps tm) (fun v=>k v tm h ds):=by
 unfold Wm Ak1 C0
 cases Uw place (ps tm) z <;> rfl
theorem Azt:Wm (A0t e) k tm h ds=Ao9 (e tm) (fun v=>k v tm h ds):=by
 unfold Wm A0t Ao9
 cases e tm <;> rfl
theorem Auw(n:Nat):Wm (Aq6 n e) k tm h ds=Af8 n (e tm) (fun v=>k v tm h ds):=by
 unfold Wm Aq6 Af8
 cases e tm <;> try rfl
 rename_i i off len a b
 simp only
 cases Nat.ble n len <;> rfl
theorem Auu(n s:Nat)(lo hi mx:Ah->Option EV):Wm (Agp n s e lo hi mx) k tm h ds=Us n s (e tm) (lo tm) (hi tm) (mx tm) (fun v=>k v tm h ds):=by
 unfold Wm Agp Us K1
 cases e tm <;> rfl
theorem Aky(xs:Ah->List EV):Adp call round e xs k tm h ds=Al (V2 call round (e tm) (xs tm) h) (fun v h=>k v tm h ds):=by
 unfold Adp V2 Al
 cases e tm <;> rfl
theorem Az8(res:List ResultVar):Ag4 T res tm h=H3 T (res.map (Agq tm)) h:=by
 have hv:∀ l:List ResultVar,Hq T tm h l=Aml T h (l.map (Agq tm)):=by
  intro l
  induction l with
  | nil=>rfl
  | cons a r ih=>
   cases a with
   | tmp t=>simp only[Hq,List.map_cons,Agq,Aml,ih];rfl
   | cell a t=>
    simp only[Hq,List.map_cons,Agq,Aml,ih]
    cases tmp tm a <;> rfl
 rw[Avz]
 unfold Ayj H3
 rw[hv]
 rfl
theorem A5g(res:List ResultVar):Aiq T res tm h ds=F0 ds h (fun h=>H3 T (res.map (Agq tm)) h):=by
 have:Ag4 T res tm=fun h=>H3 T (res.map (Agq tm)) h:=funext fun h=>Az8 res
 show F0 ds h (Ag4 T res tm)=_
 rw[this]
theorem A1m {l:Nat}:U9 l c1 tm h ds=I0 l h (fun h=>c1 tm h ds):=by
 unfold U9 I0
 cases h.get l with
 | none=>rfl
 | some o=>
  cases o <;> try rfl
theorem Atq {l:Nat}{v:Bool}{st:LoopState}{j:Option Code}:Bw l v st j tm h ds=Ao6 l v st j h:=by
 unfold Ao6 Bw
 rfl
theorem Aqw {g n i:Nat}{out:Nat->CF}{env:Env}{ret kk:CF}{o:Operand}(ho:(D1 T g i).1=o):Ahl T call g n none i out env ret kk tm h ds =
 match Be tm o with
 | some f=>Abc call T g n i f tm h ds (fun h ds=>kk tm h ds) (fun id h ds=>Alw out env id tm h ds) (fun h ds=>ret tm h ds)
 | none=>none:=by
 subst ho
 unfold Ahl Ahb
 cases Be tm (D1 T g i).1 with
 | none=>rfl
 | some f=>
  cases f <;> rfl
theorem Am4 {g n i l0:Nat}{out:Nat->CF}{env:Env}{ret kk:CF}{o:Operand}(ho:(D1 T g i).1=o):Ahl T call g n (some l0) i out env ret kk tm h ds =
 match Be tm o with
 | some f=>Ajf call T g n i l0 f tm h ds (fun h ds=>kk tm h ds) (fun id h ds=>Alw out env id tm h ds) (fun h ds=>ret tm h ds)
 | none=>none:=by
 subst ho
 unfold Ahl Ahb
 cases Be tm (D1 T g i).1 with
 | none=>rfl
 | some f=>
  cases f <;> rfl
theorem Ak6(t:Nat):Be tm (.tmp t)=some (tmp tm t):=rfl
theorem Aj0(f:Nat):Be tm (.func f)=some (.func f [] []):=rfl
theorem Aqx(out:Nat->CF)(id:Nat):Alw out [] id=out id:=rfl
theorem Aj6 {K l:Nat}{args:List EV}{st:LoopState}{p:Option Code}{f n:Nat}{tm tm':Ah}{ps:List Tmp}{asg body:Code}{d:Nat}(hg:h.get l=some (.loop st p f n tm ps asg body d))(hs:Nv ps args n tm=some tm'):
 Aeb T call round K l args h=Ov T call round K f n (some l) (fun id=>Bw l false .done (some (.exit id))) (Bw l false .done (some .ret)) asg []
  (U9 l (Ov T call round K f n (some l) (fun id=>Bw l false .done (some (.exit id))) (Bw l false .done (some .ret)) body [] (Bw l true .ready none))) tm' h []:=by
 unfold Aeb
 rw[hg]
 simp only
 rw[hs]
theorem lq {m n d:Nat}(h:n<=d)(e:Nat.ble m n=true):m<=d:=Nat.le_trans (Nat.le_of_ble_eq_true e) h
end
theorem dd:
 (∀ (e:EF) (p:PF) (c:CF) (tm:Ah) (h:Aa) (ds:List Nat),mv e p c tm h ds=c (p (some (e tm)) tm) h ds) /\
 (∀ (e:EF) (k:KF) (tm:Ah) (h:Aa) (ds:List Nat),A1q e k tm h ds=k (e tm) tm h ds) /\
 (∀ (p:PF) (c:CF) (v:EV) (tm:Ah) (h:Aa) (ds:List Nat),put p c v tm h ds=c (p (some v) tm) h ds) /\
 (∀ (c:CF) (v:EV) (tm:Ah) (h:Aa) (ds:List Nat),Au2 c v tm h ds=c tm h ds) /\
 (∀ (v:EV) (tm:Ah),Ab2 v tm=v) /\
 (∀ (c a b:EF) (k:KF) (tm:Ah) (h:Aa) (ds:List Nat),A3y c a b k tm h ds=Bg (c tm) (a tm) (b tm) (fun v=>k v tm h ds)) /\
 (∀ (g:IG) (f:EV->EV->Option EV) (a b:EF) (k:KF) (tm:Ah) (h:Aa) (ds:List Nat),Aw4 g f a b k tm h ds=Ap g f (a tm) (b tm) (fun v=>k v tm h ds)) /\
 (∀ (f:EV->EV->Option EV) (a b:EF) (k:KF) (tm:Ah) (h:Aa) (ds:List Nat),A5o f a b k tm h ds=N1 f (a tm) (b tm) (fun v=>k v tm h ds)) /\
 (∀ (e:EF) (k:KF) (tm:Ah) (h:Aa) (ds:List Nat),A4x e k tm h ds=Sz (e tm) (fun v=>k v tm h ds)) /\
 (∀ (e:EF) (k:KF) (tm:Ah) (h:Aa) (ds:List Nat),A5e e k tm h ds=Bj (e tm) (fun v=>k v tm h ds)) /\
 (∀ (c:Nat) (e:EF) (k:KF) (tm:Ah) (h:Aa) (ds:List Nat),A48 c e k tm h ds=An c (e tm) (fun v=>k v tm h ds)) /\
 (∀ (len s:Nat) (e ix:EF) (k:KF) (tm:Ah) (h:Aa) (ds:List Nat),A1d len s e ix k tm h ds=Aiw len s (e tm) (ix tm) (fun v=>k v tm h ds)) /\
 (∀ (s:Nat) (e ix:EF) (k:KF) (tm:Ah) (h:Aa) (ds:List Nat),Akl s e ix k tm h ds=Ix s (e tm) (ix tm) (fun v=>k v tm h ds)) /\
 (∀ (len s:Nat) (agg:Bool) (n:Nat) (e ix:EF) (k:KF) (tm:Ah) (h:Aa) (ds:List Nat),A1x len s agg n e ix k tm h ds=A02 len s agg n (e tm) (ix tm) (fun v=>k v tm h ds)) /\
 (∀ (off:Nat) (agg:Bool) (n:Nat) (e:EF) (k:KF) (tm:Ah) (h:Aa) (ds:List Nat),Ath off agg n e k tm h ds=Aei off agg n (e tm) (fun v=>k v tm h ds)) /\
 (∀ (c:IntKind) (e:EF) (k:KF) (tm:Ah) (h:Aa) (ds:List Nat),A4e c e k tm h ds=O7 c (e tm) (fun v=>k v tm h ds)) /\
 (∀ (ix:Nat) (e:EF) (k:KF) (tm:Ah) (h:Aa) (ds:List Nat),A32 ix e k tm h ds=Cq ix (e tm) (fun v=>k v tm h ds)) /\
 (∀ (e:EF) (k:KF) (tm:Ah) (h:Aa) (ds:List Nat),Xa e k tm h ds=Am (e tm) h (fun v=>k v tm h ds)) /\
 (∀ (n:Nat) (e:EF) (k:KF) (tm:Ah) (h:Aa) (ds:List Nat),Apk n e k tm h ds=B8 n (e tm) h (fun v=>k v tm h ds)) /\
 (∀ (n:Nat) (a x:EF) (k:KF) (tm:Ah) (h:Aa) (ds:List Nat),Akh n a x k tm h ds=Jf n (a tm) (x tm) h (fun h=>k (.tuple []) tm h ds)) /\
 (∀ (z:List EV) (t:TypeId) (k:KF) (tm:Ah) (h:Aa) (ds:List Nat),An9 z t k tm h ds=Mo (.cells z t) h (fun v h=>k v tm h ds)) /\
 (∀ (t:TypeId) (e:EF) (k:KF) (tm:Ah) (h:Aa) (ds:List Nat),A2g t e k tm h ds=E3 t (e tm) h (fun v h=>k v tm h ds)) /\
 (∀ (e:EF) (k:KF) (tm:Ah) (h:Aa) (ds:List Nat),A4z e k tm h ds=Ho (e tm) (fun v=>k v tm h ds)) /\
 (∀ (call:Ac) (g:Nat) (xs:Ah->List EV) (k:KF) (tm:Ah) (h:Aa) (ds:List Nat),Avw call g xs k tm h ds=Al (call g (xs tm) h) (fun v h=>k v tm h ds)) /\
 (∀ (call round:Ac) (e:EF) (xs:Ah->List EV) (k:KF) (tm:Ah) (h:Aa) (ds:List Nat),Adp call round e xs k tm h ds=Al (V2 call round (e tm) (xs tm) h) (fun v h=>k v tm h ds)) /\
 (∀ (e:TypeId) (size:Nat) (s x:EF) (k:KF) (tm:Ah) (h:Aa) (ds:List Nat),K5 (Avf e size s x) k tm h ds=Al (D5 e size (s tm) (x tm) h) (fun v h=>k v tm h ds)) /\
 (∀ (T:D4) (b:Builtin) (ts:Array TypeId) (xs:Ah->List EV) (k:KF) (tm:Ah) (h:Aa) (ds:List Nat),K5 (Af4 T b ts xs) k tm h ds=Al (builtin T b ts (xs tm) h) (fun v h=>k v tm h ds)) /\
 (∀ (z:List EV) (t:TypeId) (l c:EF) (k:KF) (tm:Ah) (h:Aa) (ds:List Nat),K5 (Ze z t l c) k tm h ds=Al (Zc z t (l tm) (c tm) h) (fun v h=>k v tm h ds)) /\
 (∀ (z:List EV) (t:TypeId) (s n:Nat) (ps:Ah->List (Nat × EV)) (k:KF) (tm:Ah) (h:Aa) (ds:List Nat),K5 (Ru z t s n ps) k tm h ds=Al (B3 z t s n (ps tm) h) (fun v h=>k v tm h ds)) /\
 (∀ (k:KF) (tm:Ah) (h:Aa) (ds:List Nat),K5 Ajo k tm h ds=Al (Agg h) (fun v h=>k v tm h ds)) /\
 (∀ (s:EF) (k:KF) (tm:Ah) (h:Aa) (ds:List Nat),K5 (Aco s) k tm h ds=Al (Acs (s tm) h) (fun v h=>k v tm h ds)) /\
 (∀ (T:D4) (kt t:TypeId) (ok:Bool) (m ix:EF) (k:KF) (tm:Ah) (h:Aa) (ds:List Nat),K5 (Ajc T kt t ok m ix) k tm h ds=Al (Afd T kt t ok (m tm) (ix tm) h) (fun v h=>k v tm h ds)) /\
 (∀ (T:D4) (kt:TypeId) (m ix x:EF) (k:KF) (tm:Ah) (h:Aa) (ds:List Nat),K5 (Zh T kt m ix x) k tm h ds=Al (U7 T kt (m tm) (ix tm) (x tm) h) (fun v h=>k v tm h ds)) /\
 (∀ (c x:EF) (k:KF) (tm:Ah) (h:Aa) (ds:List Nat),K5 (Amw c x) k tm h ds=Al (Ak2 (c tm) (x tm) h) (fun v h=>k v tm h ds)) /\
 (∀ (z:EV) (c:EF) (k:KF) (tm:Ah) (h:Aa) (ds:List Nat),K5 (Amt z c) k tm h ds=Al (Akc z (c tm) h) (fun v h=>k v tm h ds)) /\
 (∀ (c:EF) (k:KF) (tm:Ah) (h:Aa) (ds:List Nat),K5 (Aoe c) k tm h ds=Al (Aou (c tm) h) (fun v h=>k v tm h ds)) /\
 (∀ (place:Nat->Option (Nat × Nat)) (z:List EV) (ps:Ah->List (Nat × EV)) (k:KF) (tm:Ah) (h:Aa) (ds:List Nat),Wm (Ak1 place z ps) k tm h ds=C0 place z (ps tm) (fun v=>k v tm h ds)) /\
 (∀ (f:Nat) (xs cs:Ah->List EV) (k:KF) (tm:Ah) (h:Aa) (ds:List Nat),Wm (Ann f xs cs) k tm h ds=k (.func f (xs tm) (cs tm)) tm h ds) /\
 (∀ (e:EF) (k:KF) (tm:Ah) (h:Aa) (ds:List Nat),Wm (A0t e) k tm h ds=Ao9 (e tm) (fun v=>k v tm h ds)) /\
 (∀ (n:Nat) (e:EF) (k:KF) (tm:Ah) (h:Aa) (ds:List Nat),Wm (Aq6 n e) k tm h ds=Af8 n (e tm) (fun v=>k v tm h ds)) /\
 (∀ (n s:Nat) (e:EF) (lo hi mx:Ah->Option EV) (k:KF) (tm:Ah) (h:Aa) (ds:List Nat),Wm (Agp n s e lo hi mx) k tm h ds=Us n s (e tm) (lo tm) (hi tm) (mx tm) (fun v=>k v tm h ds)) /\
 (∀ (s:Nat) (e:EF) (lo hi mx:Ah->Option EV) (k:KF) (tm:Ah) (h:Aa) (ds:List Nat),Wm (A6n s e lo hi mx) k tm h ds=Apa s (e tm) (lo tm) (hi tm) (mx tm) (fun v=>k v tm h ds)) /\
 (∀ (w:Ah->Bool) (yes:CF) (no:KF) (tm:Ah) (h:Aa) (ds:List Nat),Aat w yes no tm h ds=Ao (w tm) (yes tm h ds) (no (.tuple []) tm h ds)) /\
 (∀ (w:Ah->Bool) (yes no:CF) (tm:Ah) (h:Aa) (ds:List Nat),A5a w yes no tm h ds=Ao (w tm) (yes tm h ds) (no tm h ds)) /\
 (∀ (e:EF) (a b:CF) (tm:Ah) (h:Aa) (ds:List Nat),Ajp e a b tm h ds=Fg (e tm) (a tm h ds) (b tm h ds)) /\
 (∀ (tm:Ah) (h:Aa) (ds:List Nat),C4 tm h ds=none) /\
 (∀ (tm:Ah) (h:Aa) (ds:List Nat),A54 tm h ds=F0 ds h fun h=>some (.tuple [],h)) /\
 (∀ (p:EF) (tm:Ah) (h:Aa) (ds:List Nat),A8f p tm h ds=F0 ds h fun h=>some (p tm,h)) /\
 (∀ (p q:EF) (tm:Ah) (h:Aa) (ds:List Nat),A8n p q tm h ds=F0 ds h fun h=>some (.tuple [p tm,q tm],h)) /\
 (∀ (T:D4) (res:List ResultVar) (tm:Ah) (h:Aa) (ds:List Nat),Aiq T res tm h ds=F0 ds h (fun h=>H3 T (res.map (Agq tm)) h)) /\
 (∀ (h:Aa) (k:Aa->R),F0 [] h k=k h) /\
 (∀ (l:Nat) (c:CF) (tm:Ah) (h:Aa) (ds:List Nat),U9 l c tm h ds=I0 l h (fun h=>c tm h ds)) /\
 (∀ (l:Nat) (v:Bool) (st:LoopState) (j:Option Code) (tm:Ah) (h:Aa) (ds:List Nat),Bw l v st j tm h ds=Ao6 l v st j h) /\
 (∀ (k:Nat->DX->CF) (tm:Ah) (h:Aa) (ds:List Nat),A37 k tm h ds=Gn h (fun base s=>k base s tm h ds)) /\
 (∀ (i b base:Nat) (e:EF) (s:DX) (k:DX->CF) (tm:Ah) (h:Aa) (ds:List Nat),A36 i b base e s k tm h ds=A9 i b base (e tm) s (fun s=>k s tm h ds)) /\
 (∀ (i:Nat) (s:DX) (k:DX->CF) (tm:Ah) (h:Aa) (ds:List Nat),A5l i s k tm h ds=Ad6 i h s (fun s=>k s tm h ds)) /\
 (∀ (i b:Nat) (e:EF) (s:DX) (k:DX->CF) (tm:Ah) (h:Aa) (ds:List Nat),A6v i b e s k tm h ds=Ac3 i b (e tm) s (fun s=>k s tm h ds)) /\
 (∀ (o:OC) (k:KF) (tm:Ah) (h:Aa) (ds:List Nat),A6m o k tm h ds=o (fun v tm _ ds=>k v tm h ds) tm ⟨.nil,h.next,h.next⟩ ds) /\
 (∀ (i b:Nat) (s:DX) (o:OC) (k:DX->KF) (tm:Ah) (h:Aa) (ds:List Nat),A5x i b s o k tm h ds=Ao (Uh b s) (o (fun v tm h' ds=>Jy i b s h h' (fun s h=>k s v tm h ds)) tm (Hf b s h) ds) none) /\
 (∀ (h:Aa) (k:Aa->R),A5y h k=k ⟨.nil,h.next,h.next⟩) /\
 (∀ (i b:Nat) (s:DX) (h:Aa) (call:Aa->R) (k:EV->Aa->DX->R),Cs i b s h call k=Ao (Uh b s) (Al (call (Hf b s h)) fun v h'=>Jy i b s h h' fun s h=>k v h s) none) /\
 (∀ (tm:Ah) (t:Nat),Agq tm (.tmp t)=.v (tmp tm t))/\(∀ (tm:Ah) (a t:Nat),Agq tm (.cell a t)=.c (tmp tm a) t) /\
 (∀ (tm:Ah) (j i:Nat) (v:EV),tmp (tm.put j (some v)) i=if j=i then v else tmp tm i) /\
 (∀ (t:Nat),tmp .nil t=.tuple []) /\
 (∀ (a:EV) (l:List EV) (i:Nat) (t:Tr EV),setArgs (a::l) i t=setArgs l (i+1) (t.put i (some a)))/\(∀ (b:Bool) (f g:CF) (tm:Ah) (h:Aa) (ds:List Nat),Ao b f g tm h ds=Ao b (f tm h ds) (g tm h ds))/\(∀ (i:Nat) (t:Tr EV),setArgs [] i t=t) /\
 (∀ (tm:Ah) (a:ResultVar) (l:List ResultVar),List.map (Agq tm) (a::l)=Agq tm a::List.map (Agq tm) l)/\(∀ (tm:Ah),List.map (Agq tm) [] = []):=
 ⟨fun _ _ _ _ _ _=>rfl,fun _ _ _ _ _=>rfl,fun _ _ _ _ _ _=>rfl,fun _ _ _ _ _=>rfl,fun _ _=>rfl,fun _ _ _ _ _ _ _=>rfl,fun _ _ _ _ _ _ _ _=>rfl,fun _ _ _ _ _ _ _=>rfl,
  fun _ _ _ _ _=>rfl,fun _ _ _ _ _=>rfl,fun _ _ _ _ _ _=>rfl,fun _ _ _ _ _ _ _ _=>rfl,fun _ _ _ _ _ _ _=>Am3,fun _ _ _ _ _ _ _ _ _ _=>rfl,fun _ _ _ _ _ _ _ _=>rfl,fun _ _ _ _ _ _=>rfl,fun _ _ _ _ _ _=>rfl,
  fun _ _ _ _ _=>Amr,fun _ _ _ _ _ _=>Ana,fun _ _ _ _ _ _ _=>rfl,fun _ _ _ _ _ _=>rfl,fun _ _ _ _ _ _=>rfl,fun _ _ _ _ _=>rfl,fun _ _ _ _ _ _ _=>rfl,fun _ _ _ _ _ _ _ _=>Aky _,
  fun _ _ _ _ _ _ _ _=>rfl,fun _ _ _ _ _ _ _ _=>rfl,fun _ _ _ _ _ _ _ _=>rfl,fun _ _ _ _ _ _ _ _ _=>rfl,fun _ _ _ _=>rfl,fun _ _ _ _ _=>rfl,fun _ _ _ _ _ _ _ _ _ _=>rfl,fun _ _ _ _ _ _ _ _ _=>rfl,
  fun _ _ _ _ _ _=>rfl,fun _ _ _ _ _ _=>rfl,fun _ _ _ _ _=>rfl,fun _ _ _ _ _ _ _=>Ajx _ _ _,fun _ _ _ _ _ _ _=>rfl,fun _ _ _ _ _=>Azt,fun _ _ _ _ _ _=>Auw _,fun _ _ _ _ _ _ _ _ _ _=>Auu _ _ _ _ _,fun _ _ _ _ _ _ _ _ _=>rfl,
  fun _ _ _ _ _ _=>rfl,fun _ _ _ _ _ _=>rfl,fun _ _ _ _ _ _=>rfl,fun _ _ _=>rfl,fun _ _ _=>rfl,fun _ _ _ _=>rfl,fun _ _ _ _ _=>rfl,fun _ _ _ _ _=>A5g _,fun _ _=>rfl,fun _ _ _ _ _=>A1m,fun _ _ _ _ _ _ _=>Atq,
  fun _ _ _ _=>rfl,fun _ _ _ _ _ _ _ _ _=>rfl,fun _ _ _ _ _ _=>rfl,fun _ _ _ _ _ _ _ _=>rfl,fun _ _ _ _ _=>rfl,fun _ _ _ _ _ _ _ _=>rfl,fun _ _=>rfl,fun _ _ _ _ _ _=>rfl,
  fun _ _=>rfl,fun _ _ _=>rfl,Sa,fun _=>rfl,fun _ _ _ _=>rfl,fun b _ _ _ _ _=>(by cases b <;> rfl),fun _ _=>rfl,fun _ _ _=>rfl,fun _=>rfl⟩
end Go.Ev

namespace Go.Ev
noncomputable section
abbrev VS:=Nat->EV
abbrev CD:=VS->Aa->R
abbrev Axx(ρ:VS)(d:Nat)(v:EV):VS:=fun i=>Ao (Nat.beq d i) v (ρ i)
abbrev C3(ρ:VS)(x:Operand):Option EV:=match x with
 | .tmp t=>some (ρ t)
 | .const v=>ofV v
 | .global _=>none
 | .func f=>some (.func f [] [])
abbrev Aee(ρ:VS)(l:List Operand):Option (List EV):=@List.rec Operand (fun _=>Option (List EV)) (some []) (fun x _ ih=>match C3 ρ x,ih with|some e,some es=>some (e::es)|_,_=>none) l
abbrev Ai4(ρ:VS)(l:List (Nat × Operand)):Option (List (Nat × EV)):=@List.rec (Nat × Operand) (fun _=>Option (List (Nat × EV))) (some []) (fun x _ ih=>match C3 ρ x.2,ih with|some e,some es=>some ((x.1,e)::es)|_,_=>none) l
abbrev An4(ρ:VS)(x:Option Operand):Option (Option EV):=match x with
 | none=>some none
 | some x=>(match C3 ρ x with|some e=>some (some e)|none=>none)
abbrev Sr(T:D4)(call callV round:Ac)(op:Op)(ρ:VS)(h:Aa)(k:EV->Aa->R):R:=
 match op with
 | .move x=>(match C3 ρ x with|some e=>k e h|none=>none)
 | .assign x=>(match C3 ρ x with|some e=>k e h|none=>none)
 | .pick c a b=>(match C3 ρ c,C3 ρ a,C3 ρ b with|some c,some a,some b=>Bg c a b fun v=>k v h|_,_,_=>none)
 | .binOp op t x y _=>(match C3 ρ x,C3 ρ y with
  | some a,some b=>(match A1h op with|some g=>Ap g (bin T op t) a b fun v=>k v h|none=>N1 (bin T op t) a b fun v=>k v h)
  | _,_=>none)
 | .unOp .not _ x=>(match C3 ρ x with|some e=>Sz e fun v=>k v h|none=>none)
 | .nilCheck x=>(match C3 ρ x with|some e=>Bj e fun v=>k v h|none=>none)
 | .fieldAddr s x f=>(match C3 ρ x,T.H0 s with
  | some e,some (.struct fields)=>(match Agz fields.toList f with
   | some fd=>(match T.size fd.type with|some n=>Ao (Nat.beq n 0) none (An fd.offset e fun v=>k v h)|none=>none)
   | none=>none)
  | _,_=>none)
 | .indexAddr t x ix=>(match C3 ρ x,C3 ρ ix,T.H0 t with
  | some e,some ix,some (.array len et)=>(match T.size et with|some s=>Aiw len s e ix fun v=>k v h|none=>none)
  | some e,some ix,some (.slice et)=>(match T.size et with|some s=>Ix s e ix fun v=>k v h|none=>none)
  | _,_,_=>none)
 | .index t x ix=>(match C3 ρ x,C3 ρ ix,T.H0 t with
  | some e,some ix',some (.array len et)=>(match T.size et,T.agg et with|some s,some agg=>A02 len s agg s e ix' fun v=>k v h|_,_=>none)
  | _,_,_=>none)
 | .field t x f=>(match C3 ρ x,T.H0 t with
  | some e,some (.struct fields)=>(match Agz fields.toList f with
   | some fd=>(match T.agg fd.type with
    | some true=>(match T.size fd.type with|some n=>Aei fd.offset true n e fun v=>k v h|none=>none)
    | some false=>Aei fd.offset false 0 e fun v=>k v h
    | none=>none)
   | none=>none)
  | _,_=>none)
 | .convert src dst x=>(match C3 ρ x,T.H0 src,T.H0 dst with|some e,some _,some (.int c)=>O7 c e fun v=>k v h|_,_,_=>none)
 | .extract x ix=>(match C3 ρ x with|some e=>Cq ix e fun v=>k v h|none=>none)
 | .load t x=>(match C3 ρ x,T.agg t with
  | some e,some true=>(match T.size t with|some n=>B8 n e h fun v=>k v h|none=>none)
  | some e,some false=>Am e h fun v=>k v h
  | _,_=>none)
 | .store t a x=>(match C3 ρ a,C3 ρ x,T.size t with|some a,some x,some n=>Jf n a x h fun h=>k (.tuple []) h|_,_,_=>none)
 | .alloc t=>(match T.zero t with|some z=>Mo (.cells z t) h k|none=>none)
 | .box t x=>(match C3 ρ x with|some e=>E3 t e h k|none=>none)
 | .call { callee:=.value (.func g),args,.. }=>(match Aee ρ args.toList with|some xs=>Al (call g xs h) k|none=>none)
 | .call { callee:=.value f,args,.. }=>(match C3 ρ f,Aee ρ args.toList with|some e,some xs=>Al (V2 callV round e xs h) k|_,_=>none)
 | .call { callee:=.builtin .append,args,argTypes }=>(match args.toList,argTypes.toList with
  | [s,x],[t,u]=>(match C3 ρ s,C3 ρ x,T.H0 u,T.H0 t with
   | some a,some b,some (.slice _),some (.slice e)=>(match T.size e,T.zero e with
    | some size,some _=>Al (D5 e size a b h) k
    | _,_=>none)
   | _,_,_,_=>none)
  | _,_=>none)
 | .call { callee:=.builtin .len,args,argTypes }=>(match args.toList,argTypes.toList with
  | [x],[t]=>(match C3 ρ x,T.H0 t with
   | some e,some (.slice _)=>Ho e fun v=>k v h
   | some e,some (.chan ..)=>Al (Aou e h) k
   | some e,_=>Al (builtin T .len argTypes [e] h) k
   | _,_=>none)
  | _,_=>none)
 | .call { callee:=.builtin b,args,argTypes }=>(match Aee ρ args.toList with|some xs=>Al (builtin T b argTypes xs h) k|none=>none)
 | .unOp .neg _ x=>(match C3 ρ x with|some e=>Ao9 e fun v=>k v h|none=>none)
 | .build t ps=>(match T.zero t,Ai4 ρ ps.toList,T.H0 t with
  | some z,some l,some (.struct fields)=>(match placesOf T fields.toList with
   | some ps=>C0 (Gk ps) z l fun v=>k v h
   | none=>none)
  | some z,some l,some (.array _ e)=>(match T.size e with
   | some s=>C0 (Aie s) z l fun v=>k v h
   | none=>none)
  | _,_,_=>none)
 | .buildSlice t n ps=>(match T.H0 t,Ai4 ρ ps.toList with
  | some (.slice e),some l=>(match T.size e,T.zero e with
   | some s,some z=>Al (B3 z e s n l h) k
   | _,_=>none)
  | _,_=>none)
 | .makeFunc (.func f) first captured=>(match Aee ρ first.toList,Aee ρ captured.toList with|some a,some b=>k (.func f a b) h|_,_=>none)
 | .sliceToArrayPointer t x=>(match C3 ρ x,T.H0 t with|some e,some (.array n _)=>Af8 n e fun v=>k v h|_,_=>none)
 | .slice t x lo hi mx=>(match C3 ρ x,An4 ρ lo,An4 ρ hi,An4 ρ mx with
  | some e,some lo,some hi,some mx=>(match T.H0 t with
   | some (.array n et)=>(match T.size et with|some s=>Us n s e lo hi mx fun v=>k v h|none=>none)
   | some (.slice et)=>(match T.size et with|some s=>Apa s e lo hi mx fun v=>k v h|none=>none)
   | _=>none)
  | _,_,_,_=>none)
 | .makeSlice t l c=>(match C3 ρ l,C3 ρ c,T.H0 t with
  | some l,some c,some (.slice e)=>(match T.zero e with|some z=>Al (Zc z e l c h) k|none=>none)
  | _,_,_=>none)
 | .makeMap _ none=>Al (Agg h) k
 | .makeChan t s=>(match C3 ρ s,T.H0 t with
  | some s,some (.chan _ e)=>(match T.size e with|some _=>Al (Acs s h) k|none=>none)
  | _,_=>none)
 | .lookup t x ix ok=>(match C3 ρ x,C3 ρ ix,T.H0 t with|some m,some i,some (.map kt e)=>Al (Afd T kt e ok m i h) k|_,_,_=>none)
 | .mapUpdate t m ix x=>(match C3 ρ m,C3 ρ ix,C3 ρ x,T.H0 t with|some m,some i,some x,some (.map kt _)=>Al (U7 T kt m i x h) k|_,_,_,_=>none)
 | .select cs false=>(match cs.toList with
  | [c]=>(match c.send with
   | some x=>(match C3 ρ c.chan,C3 ρ x,zeroOf T c.elem with|some c,some x,some _=>Al (Ak2 c x h) k|_,_,_=>none)
   | none=>(match C3 ρ c.chan,zeroOf T c.elem with|some c,some zv=>Al (Akc zv c h) k|_,_=>none))
  | _=>none)
 | _=>none
def Ayp(T:D4)(op:Op):Bool:=
 match op with
 | .move _ | .assign _ | .pick .. | .binOp .. | .unOp .not .. | .unOp .neg .. | .nilCheck _ | .fieldAddr .. | .indexAddr .. | .field .. | .convert .. | .extract .. | .load .. | .store .. | .alloc _ | .box .. | .call ..=>true
 | .index t x ix=>(match A6 x,A6 ix,T.H0 t with|some _,some _,some (.array ..)=>true|_,_,_=>false)
 | .build .. | .buildSlice .. | .makeFunc (.func _) .. | .sliceToArrayPointer .. | .slice .. | .makeSlice .. | .makeMap _ none | .makeChan .. | .lookup .. | .mapUpdate .. | .select _ false=>true
 | _=>false
end
theorem Cl(tm:Ah)(x:Operand):C3 (tmp tm) x=(A6 x).map fun e=>e tm:=by
 cases x with
 | tmp t=>show some (tmp tm t)=some (At7 (pathOf t) tm);rw[Yy]
 | const v=>show ofV v=Option.map _ (match ofV v with|some c=>some (Ab2 c)|none=>none);cases ofV v <;> rfl
 | global g=>rfl
 | func f=>rfl
theorem Aau(tm:Ah)(l:List Operand):Aee (tmp tm) l=(G4 l).map fun e=>e tm:=by
 induction l with
 | nil=>rfl
 | cons x r ih=>
  show (match C3 (tmp tm) x,Aee (tmp tm) r with|some e,some es=>some (e::es)|_,_=>none)=Option.map _ (match A6 x,G4 r with|some e,some es=>some (fun tm=>e tm::es tm)|_,_=>none)
  rw[ih,Cl]
  cases A6 x <;> cases G4 r <;> rfl
theorem Anp(tm:Ah)(l:List (Nat × Operand)):Ai4 (tmp tm) l=(W4 l).map fun e=>e tm:=by
 induction l with
 | nil=>rfl
 | cons x r ih=>
  show (match C3 (tmp tm) x.2,Ai4 (tmp tm) r with|some e,some es=>some ((x.1,e)::es)|_,_=>none)=Option.map _ (match A6 x.2,W4 r with|some e,some es=>some (fun tm=>(x.1,e tm)::es tm)|_,_=>none)
  rw[ih,Cl]
  cases A6 x.2 <;> cases W4 r <;> rfl
theorem A1v(tm:Ah)(x:Option Operand):An4 (tmp tm) x=(Agb x).map fun e=>e tm:=by
 cases x with
 | none=>rfl
 | some x=>
  show (match C3 (tmp tm) x with|some e=>some (some e)|none=>none)=Option.map _ (match A6 x with|some e=>some (fun tm=>some (e tm))|none=>none)
  rw[Cl];cases A6 x <;> rfl
theorem Aki {T:D4}{call round:Ac}{op:Op}(ok:Ayp T op=true)(k:KF)(tm:Ah)(h:Aa):Iq T call round op k tm h []=Sr T call call round op (tmp tm) h fun v h=>k v tm h []:=by
 cases op with
 | move x=>simp only[Iq,Sr,Cl];cases A6 x <;> rfl
 | assign x=>simp only[Iq,Sr,Cl];cases A6 x <;> rfl
 | pick c a b=>simp only[Iq,Sr,Cl];cases A6 c <;> cases A6 a <;> cases A6 b <;> rfl
 | binOp op t x y sh=>
  simp only[Iq,Sr,Cl]
  cases A6 x <;> cases A6 y <;> try rfl
  simp only[Option.map_some]
  cases A1h op <;> rfl
 | unOp o t x=>
  cases o with
  | not=>simp only[Iq,Sr,Cl];cases A6 x <;> rfl
  | neg=>simp only[Iq,Sr,Cl];cases A6 x <;> first|rfl|exact Azt
  | _=>cases ok
 | nilCheck x=>simp only[Iq,Sr,Cl];cases A6 x <;> rfl
 | fieldAddr s x f=>
  simp only[Iq,Sr,Cl]
  cases A6 x with
  | none=>rfl
  | some e=>
   cases T.H0 s with
   | none=>rfl
   | some d=>
    cases d <;> try rfl
    rename_i fs
    simp only[Option.map_some]
    cases Agz fs.toList f with
    | none=>rfl
    | some fd=>
     simp only
     cases T.size fd.type with
     | none=>rfl
     | some n=>simp only;cases Nat.beq n 0 <;> rfl
 | indexAddr t x ix=>
  simp only[Iq,Sr,Cl]
  cases A6 x <;> cases A6 ix <;> try rfl
  simp only[Option.map_some]
  cases T.H0 t with
  | none=>rfl
  | some d=>
   cases d <;> try rfl
   ·rename_i n et;simp only;cases T.size et <;> rfl
   ·rename_i et;simp only;cases T.size et <;> first|rfl|exact Am3
 | index t x ix=>
  simp only[Ayp]at ok
  simp only[Iq,Sr,Cl]
  generalize A6 x=ex at ok ⊢
  generalize A6 ix=ei at ok ⊢
  generalize T.H0 t=u at ok ⊢
  cases ex <;> try (cases ok;done)
  cases ei <;> try (cases ok;done)
  cases u <;> try (cases ok;done)
  rename_i d
  cases d <;> try (cases ok;done)
  rename_i n et
  simp only[Option.map_some]
  cases T.size et <;> cases T.agg et <;> rfl
 | field t x f=>
  simp only[Iq,Sr,Cl]
  cases A6 x with
  | none=>rfl
  | some e=>
   cases T.H0 t with
   | none=>rfl
   | some d=>
    cases d <;> try rfl
    rename_i fs
    simp only[Option.map_some]
    cases Agz fs.toList f with
    | none=>rfl
    | some fd=>
     simp only
     cases T.agg fd.type with
     | none=>rfl
     | some b=>cases b <;> simp only <;> first|rfl|(cases T.size fd.type <;> rfl)
 | convert s t x=>
  simp only[Iq,Sr,Cl]
  cases A6 x <;> cases T.H0 s <;> cases T.H0 t <;> try rfl
  rename_i d
  cases d <;> rfl
 | extract x ix=>simp only[Iq,Sr,Cl];cases A6 x <;> rfl
 | load t x=>
  simp only[Iq,Sr,Cl]
  cases A6 x with
  | none=>rfl
  | some e=>
   cases T.agg t with
   | none=>rfl
   | some b=>cases b <;> simp only[Option.map_some] <;> first|exact Amr|(cases T.size t <;> first|rfl|exact Ana)
 | store t a x=>simp only[Iq,Sr,Cl];cases A6 a <;> cases A6 x <;> cases T.size t <;> rfl
 | alloc t=>simp only[Iq,Sr];cases T.zero t <;> rfl
 | box t x=>simp only[Iq,Sr,Cl];cases A6 x <;> rfl
 | build t ps=>
  simp only[Iq,Sr,Anp]
  cases T.zero t <;> cases W4 ps.toList <;> cases T.H0 t <;> try rfl
  rename_i d
  cases d <;> try rfl
  ·rename_i n et;simp only[Option.map_some];cases T.size et <;> first|rfl|exact Ajx _ _ _
  ·rename_i fs;simp only[Option.map_some];cases placesOf T fs.toList <;> first|rfl|exact Ajx _ _ _
 | buildSlice t n ps=>
  simp only[Iq,Sr,Anp]
  cases T.H0 t with
  | none=>rfl
  | some d=>
   cases d <;> try rfl
   rename_i e
   cases W4 ps.toList <;> try rfl
   simp only[Option.map_some]
   cases T.size e <;> cases T.zero e <;> rfl
 | makeFunc f a b=>
  cases f <;> try (cases ok;done)
  simp only[Iq,Sr,Aau]
  cases G4 a.toList <;> cases G4 b.toList <;> rfl
 | sliceToArrayPointer t x=>
  simp only[Iq,Sr,Cl]
  cases A6 x <;> cases T.H0 t <;> try rfl
  rename_i d
  cases d <;> first|rfl|exact Auw _
 | slice t x lo hi mx=>
  simp only[Iq,Sr,Cl,A1v]
  cases A6 x <;> cases Agb lo <;> cases Agb hi <;> cases Agb mx <;> try rfl
  simp only[Option.map_some]
  rename_i e1 l1 h1 m1
  cases T.H0 t with
  | none=>rfl
  | some d=>
   cases d <;> try rfl
   ·rename_i et;simp only;cases T.size et <;> rfl
   ·rename_i n et
    simp only
    cases T.size et with
    | none=>rfl
    | some s=>exact Auu n s l1 h1 m1
 | makeSlice t l c=>
  simp only[Iq,Sr,Cl]
  cases A6 l <;> cases A6 c <;> cases T.H0 t <;> try rfl
  rename_i d
  cases d <;> try rfl
  rename_i e;simp only[Option.map_some];cases T.zero e <;> rfl
 | makeMap t n=>cases n <;> first|rfl|cases ok
 | makeChan t s=>
  simp only[Iq,Sr,Cl]
  cases A6 s <;> cases T.H0 t <;> try rfl
  rename_i d
  cases d <;> try rfl
  rename_i dr e;simp only[Option.map_some];cases T.size e <;> rfl
 | lookup t x ix b=>
  simp only[Iq,Sr,Cl]
  cases A6 x <;> cases A6 ix <;> cases T.H0 t <;> try rfl
  rename_i d
  cases d <;> rfl
 | mapUpdate t m ix x=>
  simp only[Iq,Sr,Cl]
  cases A6 m <;> cases A6 ix <;> cases A6 x <;> cases T.H0 t <;> try rfl
  rename_i d
  cases d <;> rfl
 | select cs b=>
  cases b <;> try (cases ok;done)
  simp only[Iq,Sr,Cl]
  generalize cs.toList=l
  match l with
  | []=>rfl
  | [c]=>
   simp only
   cases c.send with
   | none=>simp only;cases A6 c.chan <;> cases zeroOf T c.elem <;> rfl
   | some x=>simp only[Cl];cases A6 c.chan <;> cases A6 x <;> cases zeroOf T c.elem <;> rfl
  | _::_::_=>rfl
 | call c=>
  obtain⟨callee,args,ats⟩:=c
  cases callee with
  | value f=>
   cases f with
   | func g=>simp only[Iq,Sr,Aau];cases G4 args.toList <;> rfl
   | global g=>rfl
   | tmp t=>
    simp only[Iq,Sr,Aau]
    rw[Cl]
    generalize A6 _=ex
    cases ex <;> cases G4 args.toList <;> first|rfl|exact Aky _
   | const v=>
    simp only[Iq,Sr,Aau]
    rw[Cl]
    generalize A6 _=ex
    cases ex <;> cases G4 args.toList <;> first|rfl|exact Aky _
  | builtin b=>
   have gen:∀ b,b ≠ .append->b ≠ .len->Iq T call round (.call ⟨.builtin b,args,ats⟩) k tm h []=Sr T call call round (.call ⟨.builtin b,args,ats⟩) (tmp tm) h fun v h=>k v tm h []:=fun b h1 h2=>by
    cases b <;> first|exact absurd rfl h1|exact absurd rfl h2|(simp only[Iq,Sr,Aau];cases G4 args.toList <;> rfl)
   by_cases h1:b=.append
   ·subst h1
    simp only[Iq,Sr,Cl]
    generalize args.toList=l
    generalize ats.toList=r
    match l,r with
    | [],_=>rfl
    | [_],_=>rfl
    | _::_::_::_,_=>rfl
    | [s,x],[]=>rfl
    | [s,x],[_]=>rfl
    | [s,x],_::_::_::_=>rfl
    | [s,x],[t,u]=>
     simp only[Cl]
     cases A6 s <;> cases A6 x <;> try rfl
     simp only[Option.map_some]
     cases T.H0 u with
     | none=>rfl
     | some d=>
      cases d <;> try rfl
      cases T.H0 t with
      | none=>rfl
      | some d'=>
       cases d' <;> try rfl
       rename_i e
       simp only
       cases T.size e <;> cases T.zero e <;> rfl
   ·by_cases h2:b=.len
    ·subst h2
     simp only[Iq,Sr,Cl]
     generalize args.toList=l
     generalize hr:ats.toList=r
     match l,r,hr with
     | [],_,_=>rfl
     | _::_::_,_,_=>rfl
     | [x],[],_=>rfl
     | [x],_::_::_,_=>rfl
     | [x],[t],hr=>
      simp only[Cl]
      cases A6 x <;> try rfl
      simp only[Option.map_some]
      cases T.H0 t with
      | none=>rfl
      | some d=>cases d <;> rfl
    ·exact gen b h1 h2
  | _=>rfl
 | _=>cases ok
noncomputable section
abbrev Wt(n:Nat)(d:Option Tmp)(ρ:VS)(v:EV):VS:=match d with|none=>ρ|some d=>Ao (Nat.ble (Nat.succ d) n) (Axx ρ d v) ρ
abbrev Are(ops:List Oper)(ρ:VS)(g:Nat × Bool):Bool:=match Aew ops g.1 with
 | some o=>(match o.dst with|some d=>As (ρ d) g.2|none=>false)
 | none=>false
abbrev Aok(T:D4)(call callV round:Ac)(n:Nat)(ops:List Oper)(fin:CD)(l:List Oper):Mode->CD:=
 @List.rec Oper (fun _=>Mode->CD) (fun _=>fin) (fun o _ ih m=>@Option.rec (Nat × Bool) (fun _=>CD) (fun ρ h=>Sr T call callV round o.op ρ h fun v h=>ih none (Wt n o.dst ρ v) h)
  (fun g ρ h=>match Mz m g with
   | some true=>Sr T call callV round o.op ρ h fun v h=>ih (Df ops g true o.dst) (Wt n o.dst ρ v) h
   | some false=>ih (Df ops g false o.dst) (Wt n o.dst ρ (.tuple [])) h
   | none=>Ao (Are ops ρ g) (Sr T call callV round o.op ρ h fun v h=>ih (Df ops g true o.dst) (Wt n o.dst ρ v) h) (ih (Df ops g false o.dst) (Wt n o.dst ρ (.tuple [])) h)) o.guard) l
abbrev Aqd(T:D4)(call callV round:Ac)(op:Op)(i b base:Nat)(s:DX)(ρ:VS)(h:Aa)(k:DX->EV->Aa->R):R:=
 match cls op with
 | .val=>Sr T call callV round op ρ h (k s)
 | .load=>(match op with | .load t x=>(match C3 ρ x with|some e=>A9 i b base e s fun s=>Sr T call callV round (.load t x) ρ h (k s)|none=>none)|_=>none)
 | .new=>Ad6 i h s fun s=>Sr T call callV round op ρ h (k s)
 | .X7=>(match op with | .store t a x=>(match C3 ρ a with|some e=>Ac3 i b e s fun s=>Sr T call callV round (.store t a x) ρ h (k s)|none=>none)|_=>none)
 | .pur=>A5y h fun h0=>Sr T call callV round op ρ h0 fun v _=>k s v h
 | .T4=>Ao (Uh b s) (Sr T call callV round op ρ (Hf b s h) fun v h'=>Jy i b s h h' fun s h=>k s v h) none
abbrev Alh(T:D4)(call callV round:Ac)(n:Nat)(ops:List Oper)(bs:Tr Nat)(base:Nat)(fin:CD)(l:List Oper):Nat->Mode->DX->CD:=
 @List.rec Oper (fun _=>Nat->Mode->DX->CD) (fun _ _ _=>fin) (fun o _ ih i m s ρ h=>match bs.get i with
  | none=>none
  | some b=>@Option.rec (Nat × Bool) (fun _=>CD) (fun ρ h=>Aqd T call callV round o.op i b base s ρ h fun s v h=>ih (Nat.succ i) none s (Wt n o.dst ρ v) h)
   (fun g ρ h=>match Mz m g with
    | some true=>Aqd T call callV round o.op i b base s ρ h fun s v h=>ih (Nat.succ i) (Df ops g true o.dst) s (Wt n o.dst ρ v) h
    | some false=>ih (Nat.succ i) (Df ops g false o.dst) s (Wt n o.dst ρ (.tuple [])) h
    | none=>Ao (Are ops ρ g) (Aqd T call callV round o.op i b base s ρ h fun s v h=>ih (Nat.succ i) (Df ops g true o.dst) s (Wt n o.dst ρ v) h) (ih (Nat.succ i) (Df ops g false o.dst) s (Wt n o.dst ρ (.tuple [])) h)) o.guard ρ h) l
abbrev Ao0(T:D4)(call callV round:Ac)(n:Nat)(ops:List Oper)(fin:CD):CD:=fun ρ h=>
 Ao (Up ops 0) (Ao (Sw ops (Hr ops 0 .nil) ops 0 []) (Gn h fun base s=>Alh T call callV round n ops (Hr ops 0 .nil) base fin ops 0 none s ρ h) none) none
abbrev Aio:=List (Nat × CD)
abbrev A68(env:Aio)(id:Nat):CD:=@List.rec (Nat × CD) (fun _=>CD) (fun _ _=>none) (fun p _ ih=>@Prod.rec Nat CD (fun _=>CD) (fun j k=>Ao (Nat.beq j id) k ih) p) env
abbrev Jb(c:CD->CD)(fuel:Nat):CD:=@Nat.rec (fun _=>CD) (fun _ _=>none) (fun _ ih=>c ih) fuel
abbrev Ht(T:D4)(call callV round:Ac)(fuel n:Nat)(ret:CD)(c:Code):Aio->CD->CD:=
 @Code.rec (fun _=>Aio->CD->CD) (fun _ k=>k)
  (fun _ ops dr _ k=>Ao dr (Ao (Sf T ops.toList) (Aok T call callV round n ops.toList k ops.toList none) (Ao0 T call callV round n ops.toList k)) (Aok T call callV round n ops.toList k ops.toList none))
  (fun _ _ a b env k=>a env (b env k))
  (fun c _ _ a b env k ρ h=>match C3 ρ c with|some e=>Fg e (a env k ρ h) (b env k ρ h)|none=>none)
  (fun id _ c env k=>c ((id,k)::env) k)
  (fun _ c env _=>Jb (fun ih=>c env ih) fuel)
  (fun _ _ _ _ _ _ _ _ _ _=>none)
  (fun id env _=>A68 env id) (fun _ _ _ _ _ _=>none) (fun _ _ k=>k) (fun _ _ _ _ _=>none) (fun _ _=>ret) (fun _ _ _ _ _=>none) c
def Am1(T:D4)(l:List Oper):Bool:=@List.rec Oper (fun _=>Bool) true (fun o _ ih=>Ao (Ayp T o.op) ih false) l
def okC(T:D4)(c:Code):Bool:=@Code.rec (fun _=>Bool) true (fun _ ops _=>Am1 T ops.toList) (fun _ _ a b=>Ao a b false) (fun _ _ _ a b=>Ao a b false) (fun _ _ a=>a) (fun _ a=>a)
 (fun _ _ _ _ _ _=>false) (fun _=>true) (fun _ a=>a) (fun _=>true) (fun _=>true) true (fun _=>true) c
abbrev rvD(ρ:VS):ResultVar->RV
 | .tmp t=>.v (ρ t)
 | .cell a t=>.c (ρ a) t
abbrev A1j(T:D4)(res:List ResultVar):CD:=fun ρ h=>match res with
 | [.tmp t]=>some (ρ t,h)
 | []=>some (.tuple [],h)
 | [.tmp s,.tmp t]=>some (.tuple [ρ s,ρ t],h)
 | res=>H3 T (res.map (rvD ρ)) h
abbrev Akp(l:List EV):Nat->VS->VS:=@List.rec EV (fun _=>Nat->VS->VS) (fun _ ρ=>ρ) (fun v _ ih i ρ=>ih (Nat.succ i) (Axx ρ i v)) l
abbrev A4r(T:D4)(call callV round:Ac)(fuel f:Nat)(args:List EV)(h:Aa):R:=
 match T.fn f with
 | some { ntmps:=n,body:=some c,results:=res,.. }=>Ao (Nat.ble (Je args) n) (Ht T call callV round fuel n (A1j T res.toList) c [] (A1j T res.toList) (Akp args 0 fun _=>.tuple []) h) none
 | _=>none
def okF(T:D4)(f:Nat):Bool:=match T.fn f with|some { body:=some c,.. }=>okC T c|_=>false
end
def Eqv(k:CF)(k':CD):Prop:=∀ tm h,k tm h []=k' (tmp tm) h
theorem Auz(tm:Ah)(d:Nat)(v:EV):tmp (tm.put d (some v))=Axx (tmp tm) d v:=funext fun i=>by
 rw[Sa];show _=Ao (Nat.beq d i) v (tmp tm i)
 by_cases e:d=i
 ·subst e;rw[if_pos rfl,Nat.beq_refl,Ai]
 ·rw[if_neg e,beq_false e,Aw]
theorem Ag1 {n:Nat}{d:Option Tmp}{k:CF}{k':CD}(hk:Eqv k k')(v:EV)(tm:Ah)(h:Aa):Gw n d k v tm h []=k' (Wt n d (tmp tm) v) h:=by
 cases d with
 | none=>exact hk tm h
 | some d=>
  show Ao (Nat.ble (Nat.succ d) n) (fun(v:EV) tm h ds=>k (Mn (pathOf d) (some v) tm) h ds) (fun _=>k) v tm h []=k' (Ao (Nat.ble (Nat.succ d) n) (Axx (tmp tm) d v) (tmp tm)) h
  cases Nat.ble (Nat.succ d) n with
  | true=>show k (Mn (pathOf d) (some v) tm) h []=k' (Axx (tmp tm) d v) h;rw[hk,Aft,Auz]
  | false=>exact hk tm h
theorem Auo(ops:List Oper)(g:Nat × Bool)(tm:Ah):U3 ops g tm=Are ops (tmp tm) g:=by
 unfold U3
 show _=(match Aew ops g.1 with|some o=>(match o.dst with|some d=>As (tmp tm d) g.2|none=>false)|none=>false)
 cases Aew ops g.1 with
 | none=>rfl
 | some o=>
  simp only
  cases o.dst with
  | none=>rfl
  | some d=>
   simp only
   exact B6 (k:=Fq (pathOf d)) rfl g.2 tm
theorem Att {T:D4}{call round:Ac}{n:Nat}{ops:List Oper}{fin:CF}{fin':CD}(hf:Eqv fin fin'):∀ (l:List Oper) (m:Mode),Am1 T l=true->Eqv (Vi T call round n ops fin l m) (Aok T call call round n ops fin' l m)
 | [],m,_=>hf
 | o::l,m,ok=>by
  obtain⟨ok1,ok2⟩:=Ql (show Ao (Ayp T o.op) (Am1 T l) false=true from ok)
  have ih:=fun m=>Att (call:=call) (round:=round) (n:=n) (ops:=ops) hf l m ok2
  have one:∀ m tm h,Iq T call round o.op (Gw n o.dst (Vi T call round n ops fin l m)) tm h []=Sr T call call round o.op (tmp tm) h fun v h=>Aok T call call round n ops fin' l m (Wt n o.dst (tmp tm) v) h:=fun m tm h=>by
   rw[Aki ok1];congr 1;funext v h;exact Ag1 (ih m) v tm h
  intro tm h
  obtain⟨dst,op,ty,ps,af,g⟩:=o
  cases g with
  | none=>exact one none tm h
  | some g=>
   show Aed (Mz m g) (Iq T call round op (Gw n dst (Vi T call round n ops fin l (Df ops g true dst)))) (Gw n dst (Vi T call round n ops fin l (Df ops g false dst)) (.tuple []))
    (Aat (U3 ops g) (Iq T call round op (Gw n dst (Vi T call round n ops fin l (Df ops g true dst)))) (Gw n dst (Vi T call round n ops fin l (Df ops g false dst)))) tm h [] =
    (match Mz m g with
     | some true=>Sr T call call round op (tmp tm) h fun v h=>Aok T call call round n ops fin' l (Df ops g true dst) (Wt n dst (tmp tm) v) h
     | some false=>Aok T call call round n ops fin' l (Df ops g false dst) (Wt n dst (tmp tm) (.tuple [])) h
     | none=>Ao (Are ops (tmp tm) g) (Sr T call call round op (tmp tm) h fun v h=>Aok T call call round n ops fin' l (Df ops g true dst) (Wt n dst (tmp tm) v) h) (Aok T call call round n ops fin' l (Df ops g false dst) (Wt n dst (tmp tm) (.tuple [])) h))
   cases Mz m g with
   | none=>
    show Ao (U3 ops g tm) (Iq T call round op _ tm h []) (Gw n dst _ (.tuple []) tm h [])=_
    rw[Auo,one,Ag1 (ih _)]
   | some b=>cases b with
    | true=>exact one _ tm h
    | false=>exact Ag1 (ih _) _ tm h
theorem A5z {T:D4}{call round:Ac}{op:Op}(ok:Ayp T op=true){i b base:Nat}{s:DX}{k:DX->KF}{tm:Ah}{h:Aa}{k':DX->EV->Aa->R}(hk:∀ s v h,k s v tm h []=k' s v h):
 dOp T call round op i b base s k tm h []=Aqd T call call round op i b base s (tmp tm) h k':=by
 have e:∀ s (_:Aa),(fun(v:EV) (h:Aa)=>k s v tm h [])=k' s:=fun s _=>funext fun v=>funext fun h=>hk s v h
 unfold dOp Aqd
 cases hc:cls op with
 | val=>simp only;rw[Aki ok,e s h]
 | new=>simp only;show Iq T call round op (k _) tm h []=_;rw[Aki ok,e _ h];rfl
 | load=>
  obtain⟨t,x,rfl⟩:=Ajn hc
  simp only[Cl]
  cases A6 x with
  | none=>rfl
  | some ex=>
   show K1 (fun q _=>Ao (Ab5 b base q s) (Iq T call round (.load t x) (k (s.ld i q)) tm h []) none) (ex tm)=K1 (fun q _=>Ao (Ab5 b base q s) (Sr T call call round (.load t x) (tmp tm) h (k' (s.ld i q))) none) (ex tm)
   congr 1;funext q o;rw[Aki ok,e _ h]
 | X7=>
  cases op <;> try rfl
  rename_i t a x
  simp only[Cl]
  cases A6 a with
  | none=>rfl
  | some ea=>
   show K1 (fun q _=>Ao (Ahz b q s) (Iq T call round (.store t a x) (k (s.X7 i q)) tm h []) none) (ea tm)=K1 (fun q _=>Ao (Ahz b q s) (Sr T call call round (.store t a x) (tmp tm) h (k' (s.X7 i q))) none) (ea tm)
   congr 1;funext q o;rw[Aki ok,e _ h]
 | pur=>
  show Iq T call round op (fun v tm _ ds=>k s v tm h ds) tm ⟨.nil,h.next,h.next⟩ []=Sr T call call round op (tmp tm) ⟨.nil,h.next,h.next⟩ fun v _=>k' s v h
  rw[Aki ok];congr 1;funext v h';exact hk s v h
 | T4=>
  show Ao (Uh b s) (Iq T call round op (fun v tm h' ds=>Jy i b s h h' (fun s h=>k s v tm h ds)) tm (Hf b s h) []) none=Ao (Uh b s) (Sr T call call round op (tmp tm) (Hf b s h) fun v h'=>Jy i b s h h' fun s h=>k' s v h) none
  rw[Aki ok];congr 2;funext v h';congr 1;funext s h;exact hk s v h
theorem Avs {T:D4}{call round:Ac}{n:Nat}{ops:List Oper}{bs:Tr Nat}{base:Nat}{fin:CF}{fin':CD}(hf:Eqv fin fin'):∀ (l:List Oper) (i:Nat) (m:Mode) (s:DX),Am1 T l=true ->
 Eqv (Jm T call round n ops bs base fin l i m s) (Alh T call call round n ops bs base fin' l i m s)
 | [],i,m,s,_=>hf
 | o::l,i,m,s,ok=>by
  obtain⟨ok1,ok2⟩:=Ql (show Ao (Ayp T o.op) (Am1 T l) false=true from ok)
  have ih:=fun i m s=>Avs (call:=call) (round:=round) (n:=n) (ops:=ops) (bs:=bs) (base:=base) hf l i m s ok2
  have one:∀ b m tm h,dOp T call round o.op i b base s (fun s=>Gw n o.dst (Jm T call round n ops bs base fin l (Nat.succ i) m s)) tm h [] =
   Aqd T call call round o.op i b base s (tmp tm) h fun s v h=>Alh T call call round n ops bs base fin' l (Nat.succ i) m s (Wt n o.dst (tmp tm) v) h:=fun b m tm h=>
   A5z ok1 fun s v h=>Ag1 (ih _ m s) v tm h
  intro tm h
  obtain⟨dst,op,ty,ps,af,g⟩:=o
  show A1n (bs.get i) _ tm h []=(match bs.get i with|none=>none|some b=>_)
  cases bs.get i with
  | none=>rfl
  | some b=>
   cases g with
   | none=>exact one b none tm h
   | some g=>
    show Aed (Mz m g) (dOp T call round op i b base s fun s=>Gw n dst (Jm T call round n ops bs base fin l (Nat.succ i) (Df ops g true dst) s)) (Gw n dst (Jm T call round n ops bs base fin l (Nat.succ i) (Df ops g false dst) s) (.tuple []))
     (Aat (U3 ops g) (dOp T call round op i b base s fun s=>Gw n dst (Jm T call round n ops bs base fin l (Nat.succ i) (Df ops g true dst) s)) (Gw n dst (Jm T call round n ops bs base fin l (Nat.succ i) (Df ops g false dst) s))) tm h [] =
     (match Mz m g with
      | some true=>Aqd T call call round op i b base s (tmp tm) h fun s v h=>Alh T call call round n ops bs base fin' l (Nat.succ i) (Df ops g true dst) s (Wt n dst (tmp tm) v) h
      | some false=>Alh T call call round n ops bs base fin' l (Nat.succ i) (Df ops g false dst) s (Wt n dst (tmp tm) (.tuple [])) h
      | none=>Ao (Are ops (tmp tm) g) (Aqd T call call round op i b base s (tmp tm) h fun s v h=>Alh T call call round n ops bs base fin' l (Nat.succ i) (Df ops g true dst) s (Wt n dst (tmp tm) v) h) (Alh T call call round n ops bs base fin' l (Nat.succ i) (Df ops g false dst) s (Wt n dst (tmp tm) (.tuple [])) h))
    cases Mz m g with
    | none=>
     show Ao (U3 ops g tm) (dOp T call round op i b base s _ tm h []) (Gw n dst _ (.tuple []) tm h [])=_
     rw[Auo,one,Ag1 (ih _ _ _)]
    | some b'=>cases b' with
     | true=>exact one b _ tm h
     | false=>exact Ag1 (ih _ _ _) _ tm h
theorem Zj {T:D4}{call round:Ac}{fuel fn n:Nat}{ret:CF}{ret':CD}(hr:Eqv ret ret'):∀ (c:Code) (env:Env) (env':Aio) (k:CF) (k':CD),okC T c=true->(∀ id,Eqv (Alw (fun _=>C4) env id) (A68 env' id))->Eqv k k' ->
 Eqv (Ov T call round fuel fn n none (fun _=>C4) ret c env k) (Ht T call call round fuel n ret' c env' k')
 | .skip,env,env',k,k',_,he,hk=>hk
 | .region id ops dr,env,env',k,k',ok,he,hk=>by
  have ok:Am1 T ops.toList=true:=ok
  cases dr with
  | false=>exact Att hk ops.toList none ok
  | true=>
   show Eqv (Ao (Sf T ops.toList) (Vi T call round n ops.toList k ops.toList none) (Aj3 T call round n ops.toList k)) (Ao (Sf T ops.toList) (Aok T call call round n ops.toList k' ops.toList none) (Ao0 T call call round n ops.toList k'))
   cases Sf T ops.toList with
   | true=>exact Att hk ops.toList none ok
   | false=>
    show Eqv (Aj3 T call round n ops.toList k) (Ao0 T call call round n ops.toList k')
    unfold Aj3 Ao0
    intro tm h
    cases Up ops.toList 0 <;> try rfl
    cases Sw ops.toList (Hr ops.toList 0 .nil) ops.toList 0 [] <;> try rfl
    exact Avs hk ops.toList 0 none _ ok tm h
 | .seq a b,env,env',k,k',ok,he,hk=>by
  obtain⟨oa,ob⟩:=Ql (show Ao (okC T a) (okC T b) false=true from ok)
  exact Zj hr a env env' _ _ oa he (Zj hr b env env' k k' ob he hk)
 | .cond c a b,env,env',k,k',ok,he,hk=>by
  obtain⟨oa,ob⟩:=Ql (show Ao (okC T a) (okC T b) false=true from ok)
  have ha:=Zj (call:=call) (round:=round) (fuel:=fuel) (fn:=fn) (n:=n) hr a env env' _ _ oa he hk
  have hb:=Zj (call:=call) (round:=round) (fuel:=fuel) (fn:=fn) (n:=n) hr b env env' _ _ ob he hk
  intro tm h
  show (match A6 c with|some e=>Ajp e _ _|none=>C4) tm h []=(match C3 (tmp tm) c with|some e=>Fg e _ _|none=>none)
  rw[Cl]
  cases A6 c with
  | none=>rfl
  | some e=>
   show onB (Ov T call round fuel fn n none (fun _=>C4) ret a env k tm h []) (Ov T call round fuel fn n none (fun _=>C4) ret b env k tm h []) (e tm)=onB _ _ (e tm)
   rw[ha tm h,hb tm h]
 | .block id c,env,env',k,k',ok,he,hk=>by
  refine Zj hr c ((id,k)::env) ((id,k')::env') k k' ok (fun j=>?_) hk
  show Eqv (Ao (Nat.beq id j) k _) (Ao (Nat.beq id j) k' _)
  cases Nat.beq id j with
  | true=>exact hk
  | false=>exact he j
 | .loop c,env,env',k,k',ok,he,hk=>by
  show Eqv (Aib (fun ih=>Ov T call round fuel fn n none (fun _=>C4) ret c env ih) fuel) (Jb (fun ih=>Ht T call call round fuel n ret' c env' ih) fuel)
  have:∀ m,Eqv (Aib (fun ih=>Ov T call round fuel fn n none (fun _=>C4) ret c env ih) m) (Jb (fun ih=>Ht T call call round fuel n ret' c env' ih) m):=fun m=>by
   induction m with
   | zero=>exact fun _ _=>rfl
   | succ m ih=>exact Zj hr c env env' _ _ ok he ih
  exact this fuel
 | .rangeFunc ..,_,_,_,_,ok,_,_=>by cases ok
 | .exit id,env,env',k,k',_,he,hk=>he id
 | .scope _,_,_,_,_,_,_,_=>fun _ _=>rfl
 | .label _,_,_,_,_,_,_,hk=>hk
 | .goto _,_,_,_,_,_,_,_=>fun _ _=>rfl
 | .ret,_,_,_,_,_,_,_=>hr
 | .refuse _,_,_,_,_,_,_,_=>fun _ _=>rfl
theorem Aza(T:D4)(res:List ResultVar):Eqv (Aiq T res) (A1j T res):=fun tm h=>by
 show Ag4 T res tm h=_
 have gen:Ag4 T res tm h=H3 T (res.map (rvD (tmp tm))) h:=by
  rw[Az8]
  have:Agq tm=rvD (tmp tm):=funext fun x=>by cases x <;> rfl
  rw[this]
 unfold A1j
 split
 ·simp only[Ag4,Yy]
 ·rfl
 ·simp only[Ag4,Yy]
 ·exact gen
theorem Auq:∀ (l:List EV) (i:Nat) (tm:Ah),tmp (Rv l i tm)=Akp l i (tmp tm)
 | [],_,_=>rfl
 | v::r,i,tm=>by
  show tmp (Rv r (Nat.succ i) (Mn (pathOf i) (some v) tm))=Akp r (Nat.succ i) (Axx (tmp tm) i v)
  rw[Auq r,Aft,Auz]
theorem A4h {T:D4}{call round:Ac}{fuel f:Nat}(ok:okF T f=true)(args:List EV)(h:Aa):Aef T call round fuel f args h=A4r T call call round fuel f args h:=by
 unfold okF at ok
 unfold Aef A4r
 cases hf:T.fn f with
 | none=>rfl
 | some fn=>
  rw[hf]at ok
  obtain⟨name,origin,targs,params,rts,nfree,n,results,body,nr,ours,file,el,ln,met,tn⟩:=fn
  cases body with
  | none=>rfl
  | some c=>
   simp only at ok ⊢
   show Ao (Nat.ble (Je args) n) (Ov T call round fuel f n none (fun _=>C4) (Aiq T results.toList) c [] (Aiq T results.toList) (Rv args 0 .nil) h []) none=_
   cases Nat.ble (Je args) n with
   | false=>rfl
   | true=>
    show Ov T call round fuel f n none (fun _=>C4) (Aiq T results.toList) c [] (Aiq T results.toList) (Rv args 0 .nil) h []=_
    rw[Zj (Aza T _) c [] [] _ _ ok (fun _ _ _=>rfl) (Aza T _),Auq]
    rfl
end Go.Ev

namespace Go.Ev
noncomputable section
inductive Hk where
 | no
 | here (X:CD)
 | two (a b:Hk)
abbrev Hk.l(H:Hk):Hk:=match H with | .two a _=>a|_=>.no
abbrev Hk.r(H:Hk):Hk:=match H with | .two _ b=>b|_=>.no
section
variable (T:D4)(call callV round:Ac)(fuel n:Nat)(ret:CD)
abbrev Ma(H:Hk):Code->Aio->CD->CD:=
 @Hk.rec (fun _=>Code->Aio->CD->CD) (fun c env k=>Ht T call callV round fuel n ret c env k) (fun X _ _ _=>X)
  (fun _ _ a b c env k=>match c with
   | .seq x y=>a x env (b y env k)
   | .cond v x y=>fun ρ h=>match C3 ρ v with|some e=>Fg e (a x env k ρ h) (b y env k ρ h)|none=>none
   | .block id x=>a x ((id,k)::env) k
   | c=>Ht T call callV round fuel n ret c env k) H
abbrev atH(p:List Bool):Hk->Code->Aio->CD->CD:=
 @List.rec Bool (fun _=>Hk->Code->Aio->CD->CD) (fun _ c env k=>Ht T call callV round fuel n ret c env k)
  (fun s _ ih H c env k=>match c with
   | .seq x y=>Ao s (ih H.r y env k) (ih H.l x env (Ma T call callV round fuel n ret H.r y env k))
   | .cond _ x y=>Ao s (ih H.r y env k) (ih H.l x env k)
   | .block id x=>ih H.l x ((id,k)::env) k
   | c=>Ht T call callV round fuel n ret c env k) p
end
abbrev Ar6(p:List Bool)(X:CD):Hk->Hk:=
 @List.rec Bool (fun _=>Hk->Hk) (fun _=>.here X) (fun s _ ih H=>Ao s (.two H.l (ih H.r)) (.two (ih H.l) H.r)) p
def Ala(p:List Bool):Hk->Code->Bool:=
 @List.rec Bool (fun _=>Hk->Code->Bool) (fun H _=>match H with | .no=>true|_=>false)
  (fun s _ ih H c=>match H with
   | .here _=>false
   | H=>match c with
    | .seq x y=>Ao s (ih H.r y) (ih H.l x)
    | .cond _ x y=>Ao s (ih H.r y) (ih H.l x)
    | .block _ x=>Ao s false (ih H.l x)
    | _=>false) p
def A8l(p:List Bool):Code->Code:=
 @List.rec Bool (fun _=>Code->Code) (fun c=>c) (fun s _ ih c=>match c with
  | .seq x y=>Ao s (ih y) (ih x)
  | .cond _ x y=>Ao s (ih y) (ih x)
  | .block _ x=>ih x
  | .loop x=>ih x
  | c=>c) p
abbrev Ag2(T:D4)(g:Nat):Code:=match T.fn g with|some { body:=some c,.. }=>c|_=>.skip
abbrev nOf(T:D4)(g:Nat):Nat:=match T.fn g with|some f=>f.ntmps|_=>0
abbrev Gy(T:D4)(g:Nat):CD:=match T.fn g with|some f=>A1j T f.results.toList|_=>fun _ _=>none
abbrev u0:VS:=fun _=>.tuple []
abbrev Tx(T:D4)(g:Nat)(p:List Bool):Code:=match A8l p (Ag2 T g) with | .loop c=>c|c=>c
end
section
variable {T:D4}{call callV round:Ac}{fuel n:Nat}{ret:CD}
theorem Ax2(H:Hk)(hn:∀ X,H ≠ .here X)(c:Code)(env:Aio)(k:CD):Ma T call callV round fuel n ret H c env k=Ma T call callV round fuel n ret (.two H.l H.r) c env k:=by
 cases H with
 | no=>cases c <;> rfl
 | here X=>exact(hn X rfl).elim
 | two a b=>rfl
theorem T7(X:CD):∀ (p:List Bool) (H:Hk) (c:Code) (env:Aio) (k:CD),Ala p H c=true->atH T call callV round fuel n ret p H c env k=X->Ma T call callV round fuel n ret H c env k=Ma T call callV round fuel n ret (Ar6 p X H) c env k
 | [],H,c,env,k,hf,e=>by
  cases H with
  | no=>exact e
  | here _=>cases hf
  | two _ _=>cases hf
 | s::p,H,c,env,k,hf,e=>by
  have hn:∀ Y,H ≠ .here Y:=fun Y y=>by subst y;cases hf
  have hs:Ar6 (s::p) X H=Ao s (.two H.l (Ar6 p X H.r)) (.two (Ar6 p X H.l) H.r):=rfl
  rw[Ax2 H hn,hs]
  have hc:∃ x y id v,c=.seq x y\/c=.cond v x y\/c=.block id x:=by
   cases H with
   | here Y=>exact(hn Y rfl).elim
   | no=>cases c <;> first|exact⟨_,_,0,default,.inl rfl⟩|exact⟨_,_,0,_,.inr (.inl rfl)⟩|exact⟨_,.skip,_,default,.inr (.inr rfl)⟩|cases hf
   | two a b=>cases c <;> first|exact⟨_,_,0,default,.inl rfl⟩|exact⟨_,_,0,_,.inr (.inl rfl)⟩|exact⟨_,.skip,_,default,.inr (.inr rfl)⟩|cases hf
  obtain⟨x,y,id,v,rfl|rfl|rfl⟩:=hc
  ·have hf':Ao s (Ala p H.r y) (Ala p H.l x)=true:=by cases H <;> first|exact hf|exact(hn _ rfl).elim
   have e':Ao s (atH T call callV round fuel n ret p H.r y env k) (atH T call callV round fuel n ret p H.l x env (Ma T call callV round fuel n ret H.r y env k))=X:=e
   cases s with
   | true=>show Ma T call callV round fuel n ret H.l x env (Ma T call callV round fuel n ret H.r y env k)=Ma T call callV round fuel n ret H.l x env (Ma T call callV round fuel n ret (Ar6 p X H.r) y env k);rw[T7 X p H.r y env k hf' e']
   | false=>exact T7 X p H.l x env _ hf' e'
  ·have hf':Ao s (Ala p H.r y) (Ala p H.l x)=true:=by cases H <;> first|exact hf|exact(hn _ rfl).elim
   have e':Ao s (atH T call callV round fuel n ret p H.r y env k) (atH T call callV round fuel n ret p H.l x env k)=X:=e
   cases s with
   | true=>
    show (fun ρ h=>match C3 ρ v with|some e=>Fg e (Ma T call callV round fuel n ret H.l x env k ρ h) (Ma T call callV round fuel n ret H.r y env k ρ h)|none=>none)=fun ρ h=>match C3 ρ v with|some e=>Fg e (Ma T call callV round fuel n ret H.l x env k ρ h) (Ma T call callV round fuel n ret (Ar6 p X H.r) y env k ρ h)|none=>none
    rw[T7 X p H.r y env k hf' e']
   | false=>
    show (fun ρ h=>match C3 ρ v with|some e=>Fg e (Ma T call callV round fuel n ret H.l x env k ρ h) (Ma T call callV round fuel n ret H.r y env k ρ h)|none=>none)=fun ρ h=>match C3 ρ v with|some e=>Fg e (Ma T call callV round fuel n ret (Ar6 p X H.l) x env k ρ h) (Ma T call callV round fuel n ret H.r y env k ρ h)|none=>none
    rw[T7 X p H.l x env k hf' e']
  ·have hf':Ao s false (Ala p H.l x)=true:=by cases H <;> first|exact hf|exact(hn _ rfl).elim
   cases s with
   | true=>cases hf'
   | false=>exact T7 X p H.l x _ k hf' e
theorem cut(p:List Bool){H:Hk}{c:Code}{env:Aio}{k X Y Z:CD}(e:Y=X)(hf:Ala p H c=true)(ha:atH T call callV round fuel n ret p H c env k=Y)(rest:Ma T call callV round fuel n ret (Ar6 p X H) c env k=Z):
 Ma T call callV round fuel n ret H c env k=Z:=(T7 X p H c env k hf (ha.trans e)).trans rest
theorem Dl {B:CD->CD}{E:Nat->CD}(h0:E 0=fun _ _=>none)(hs:∀ m,B (E m)=E (m+1)):∀ m,Jb B m=E m
 | 0=>h0.symm
 | m+1=>by
  show B (Jb B m)=_
  rw[Dl h0 hs m,hs]
theorem A7a {c:Code}{env:Aio}{E Bd:Nat->CD}(h0:E 0=fun _ _=>none)(h1:∀ m,Ma T call callV round fuel n ret .no c env (E m)=Bd m)(h2:∀ m,Bd m=E (m+1))(m:Nat):Jb (fun ih=>Ht T call callV round fuel n ret c env ih) m=E m:=
 Dl (B:=fun ih=>Ht T call callV round fuel n ret c env ih) h0 (fun m=>(h1 m).trans (h2 m)) m
theorem To {A B:CD}(e:∀ ρ h,A ρ h=B ρ h):A=B:=funext fun ρ=>funext fun h=>e ρ h
end
noncomputable section
abbrev w0(g:Nat)(f:Aa->R)(c:Ac):Ac:=fun g' xs h=>Ao (Nat.beq g g') (@List.rec EV (fun _=>R) (f h) (fun _ _ _=>c g' xs h) xs) (c g' xs h)
abbrev w1(g:Nat)(f:EV->Aa->R)(c:Ac):Ac:=fun g' xs h=>Ao (Nat.beq g g') (match xs with | [a]=>f a h|xs=>c g' xs h) (c g' xs h)
abbrev w2(g:Nat)(f:EV->EV->Aa->R)(c:Ac):Ac:=fun g' xs h=>Ao (Nat.beq g g') (match xs with | [a,b]=>f a b h|xs=>c g' xs h) (c g' xs h)
abbrev w3(g:Nat)(f:EV->EV->EV->Aa->R)(c:Ac):Ac:=fun g' xs h=>Ao (Nat.beq g g') (match xs with | [a,b,d]=>f a b d h|xs=>c g' xs h) (c g' xs h)
abbrev w5(g:Nat)(f:EV->EV->EV->EV->EV->Aa->R)(c:Ac):Ac:=fun g' xs h=>Ao (Nat.beq g g') (match xs with | [a,b,d,e,i]=>f a b d e i h|xs=>c g' xs h) (c g' xs h)
end
section
variable {c x:Ac}{g:Nat}
theorem W0 {f:Aa->R}(e:∀ h,c g [] h=f h)(y:c=x):c=w0 g f x:=by
 subst y;funext g' xs h;show _=Ao (Nat.beq g g') _ _
 cases hb:Nat.beq g g' with
 | false=>rfl
 | true=>have:=Nat.eq_of_beq_eq_true hb;subst this;cases xs <;> first|exact e h|rfl
theorem W1 {f:EV->Aa->R}(e:∀ a h,c g [a] h=f a h)(y:c=x):c=w1 g f x:=by
 subst y;funext g' xs h;show _=Ao (Nat.beq g g') _ _
 cases hb:Nat.beq g g' with
 | false=>rfl
 | true=>have:=Nat.eq_of_beq_eq_true hb;subst this;show c g xs h=(match xs with | [a]=>f a h|xs=>c g xs h);split <;> first|exact e _ h|rfl
theorem W2 {f:EV->EV->Aa->R}(e:∀ a b h,c g [a,b] h=f a b h)(y:c=x):c=w2 g f x:=by
 subst y;funext g' xs h;show _=Ao (Nat.beq g g') _ _
 cases hb:Nat.beq g g' with
 | false=>rfl
 | true=>have:=Nat.eq_of_beq_eq_true hb;subst this;show c g xs h=(match xs with | [a,b]=>f a b h|xs=>c g xs h);split <;> first|exact e _ _ h|rfl
theorem W3 {f:EV->EV->EV->Aa->R}(e:∀ a b d h,c g [a,b,d] h=f a b d h)(y:c=x):c=w3 g f x:=by
 subst y;funext g' xs h;show _=Ao (Nat.beq g g') _ _
 cases hb:Nat.beq g g' with
 | false=>rfl
 | true=>have:=Nat.eq_of_beq_eq_true hb;subst this;show c g xs h=(match xs with | [a,b,d]=>f a b d h|xs=>c g xs h);split <;> first|exact e _ _ _ h|rfl
theorem W5 {f:EV->EV->EV->EV->EV->Aa->R}(e:∀ a b d i j h,c g [a,b,d,i,j] h=f a b d i j h)(y:c=x):c=w5 g f x:=by
 subst y;funext g' xs h;show _=Ao (Nat.beq g g') _ _
 cases hb:Nat.beq g g' with
 | false=>rfl
 | true=>have:=Nat.eq_of_beq_eq_true hb;subst this;show c g xs h=(match xs with | [a,b,d,e,i]=>f a b d e i h|xs=>c g xs h);split <;> first|exact e _ _ _ _ _ h|rfl
end
noncomputable def A4j(T:D4)(g n:Nat):Bool:=Ao (okF T g) (Nat.ble n (nOf T g)) false
theorem Axz {T:D4}{c r:Ac}{K g:Nat}{args:List EV}(hk:A4j T g (Je args)=true)(h:Aa):Aef T c r K g args h=Ma T c c r K (nOf T g) (Gy T g) .no (Ag2 T g) [] (Gy T g) (Akp args 0 u0) h:=by
 obtain⟨h1,h2⟩:=Ql hk
 rw[A4h h1]
 unfold okF at h1
 unfold nOf at h2
 unfold A4r nOf Gy Ag2
 cases hf:T.fn g with
 | none=>rw[hf]at h1;try cases h1
 | some fn=>
  rw[hf]at h1 h2
  obtain⟨name,origin,targs,params,rts,nfree,n,results,body,nr,ours,file,el,ln,met,tn⟩:=fn
  cases body with
  | none=>cases h1
  | some c0=>
   show Ao (Nat.ble (Je args) n) _ none=_
   rw[show Nat.ble (Je args) n=true from h2]
   rfl
end Go.Ev
