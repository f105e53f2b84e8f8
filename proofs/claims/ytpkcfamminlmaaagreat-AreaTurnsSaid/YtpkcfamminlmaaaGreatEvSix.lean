import Derived.Test.YtpkcfamminlmaaaGreatEvFive
set_option linter.unusedVariables false
set_option linter.unusedSimpArgs false
set_option linter.unusedSectionVars false
namespace Go.Ev
noncomputable section
def Af4(h:Aa)(i:Nat):Option Cx:=C9 (pathOf i) h.t
end
end Go.Ev

namespace Go.Ev
theorem Kl(tm:Ag)(j i:Nat)(v:EV):tmp (tm.put j (some v)) i=if j=i then v else tmp tm i:=by
 unfold tmp;rw[Tr.get_put];by_cases h:j=i <;> simp[h]
theorem Dw {k:Ag->Option EV}{i:Nat}(h:k=C9 (pathOf i))(tm:Ag):gO k tm=tmp tm i:=by
 subst h;exact Yf tm i
theorem Dy {p:PF}{i:Nat}(h:p=H8 (pathOf i))(v:Option EV)(tm:Ag):p v tm=tm.put i v:=by
 subst h;exact Afv tm i v
noncomputable def Au(v:EV)(w:Bool):Bool:=match v with | .bool b=>An b w (Y2 w)|_=>false
theorem Bo {k:Ag->Option EV}{i:Nat}(h:k=C9 (pathOf i))(w:Bool)(tm:Ag):B0 k w tm=Au (tmp tm i) w:=by
 subst h
 unfold B0 Au tmp
 rw[Ait]
 cases tm.get i with
 | none=>rfl
 | some v=>cases v <;> rfl
abbrev I(n:Int):EV:=.int .i64 n
abbrev N(n:Nat):EV:=.int .i64 (.ofNat n)
theorem Ae3(a b:Int):ltI a b=decide (a<b):=by
 rw[As7]
 cases a <;> cases b <;> simp only[ltB]
 ·rename_i a b;rw[Bool.eq_iff_iff,decide_eq_true_iff];simp[Nat.ble_eq];omega
 ·rename_i a b;symm;rw[decide_eq_false_iff_not];simp only[Int.ofNat_eq_natCast];omega
 ·rename_i a b;symm;rw[decide_eq_true_iff];simp only[Int.ofNat_eq_natCast];omega
 ·rename_i a b;rw[Bool.eq_iff_iff,decide_eq_true_iff];simp[Nat.ble_eq];omega
theorem Anf(a b:Int):eqI a b=decide (a=b):=by
 rw[Ar6]
 cases a <;> cases b <;> simp only[eqB]
 ·rw[Bool.eq_iff_iff,decide_eq_true_iff];simp[Nat.beq_eq];omega
 ·simp
 ·simp
 ·rw[Bool.eq_iff_iff,decide_eq_true_iff];simp[Nat.beq_eq]
theorem Aiz(p:Prop)[Decidable p]:Y2 (decide p)=decide (¬ p):=by by_cases h:p <;> simp[h,Y2]
theorem Axd(a b:Int):A10 a b=a+b:=Au5 a b
theorem Ar5(a b:Int):A1c a b=a-b:=Au0 a b
theorem Amx {n:Int}(h1 : -9223372036854775808<=n)(h2:n<9223372036854775808):Dc .i64 n=n:=by
 unfold Dc
 split
 ·rename_i m
  have:Nat.ble (Nat.succ m) (lid .i64)=true:=Nat.ble_eq_true_of_le (show m+1<=9223372036854775808 by simp only[Int.ofNat_eq_natCast]at h2;omega)
  rw[this,Ak]
 ·rename_i m
  have:Nat.ble (Nat.succ m) (floor .i64)=true:=Nat.ble_eq_true_of_le (show m+1<=9223372036854775808 by simp only[Int.negSucc_eq]at h1;omega)
  rw[this,Ak]
theorem Ae(h:Aa)(o:Cx):(h.new o).get h.next=some o:=by rw[Aa.Hg,if_pos rfl]
theorem Bn {h:Aa}(o:Cx){i:Nat}(hi:i<h.next):(h.new o).get i=h.get i:=by rw[Aa.Hg,if_neg (by omega)]
theorem Ai(h:Aa)(i:Nat)(o:Cx):(h.put i o).get i=some o:=by rw[Aa.get_put,if_pos rfl]
theorem Am {h:Aa}{i j:Nat}(o:Cx)(hi:i ≠ j):(h.put i o).get j=h.get j:=by rw[Aa.get_put,if_neg hi]
theorem Asi {h:Aa}{i j:Nat}(hi:i ≠ j):(h.del i).get j=h.get j:=by rw[Aa.Qo,if_neg hi]
theorem A2i {α:Type}(p:Prop)[Decidable p](x y:α):An (decide p) x y=if p then x else y:=by by_cases h:p <;> simp[h]
end Go.Ev


namespace Go.Ev
theorem Asg {l:List EV}{n:Nat}(h:n<=l.length):takeN l n=some (l.take n):=by
 induction l generalizing n with
 | nil=>
  have:n=0:=by simpa using h
  subst this;rfl
 | cons a r ih=>
  cases n with
  | zero=>rfl
  | succ n=>
   simp only[takeN]
   rw[show Nat.beq (n+1) 0=false from rfl,Ax,Nat.pred_succ,ih (by simpa using h)]
   rfl
theorem K2 {l:List EV}{off n:Nat}(h:off+n<=l.length):N0 l off n=some ((l.drop off).take n):=by
 rw[Vc,Km,Asg (by rw[List.length_drop];omega)]
theorem Aed:∀ (l:List EV) (n:Nat),Ag0 l n=l[n]?
 | [],n=>rfl
 | a::r,0=>rfl
 | a::r,n+1=>by
  have e:Ag0 (a::r) (n+1)=Ag0 r n:=rfl
  rw[e,Aed r n];simp
theorem Amm(v:EV):∀ (l:List EV) (n:Nat),n<l.length->Jl l n [v]=some (l.set n v)
 | [],n,h=>by simp at h
 | a::r,n,h=>by
  rw[We]
  cases n with
  | zero=>cases r <;> rfl
  | succ n=>
   have e:Em (a::r) (n+1) [v]=(match Em r n [v] with|some x=>some (a::x)|none=>none):=rfl
   rw[e,<-We,Amm v r n (by simpa using h)]
   rfl
theorem Dq(l:List EV):Jz l=l.length:=by rw[Uw,Qd]
theorem Fy {l vs:List EV}(h:l.length=vs.length):Jl l 0 vs=some vs:=by
 unfold Jl
 rw[Dq,Dq,h,show Nat.beq 0 0=true from rfl,Ak,show Nat.beq vs.length vs.length=true from Nat.beq_refl _,Ak]
section
variable {e a x:EF}{k:KF}{tm:Ag}{h h':Aa}{ds:List Nat}{i off n:Nat}{l:List EV}{v:EV}
end
noncomputable section
def Ahp(x:Option Cx)(off n:Nat):Option (List EV):=Ut (fun l o=>N0 l o n) off x
def Ar(g:IG)(f:EV->EV->Option EV)(x y:EV)(k:EV->R):R:=
 match x,y with
 | .int c x,.int c' y=>An (Nat.beq (Ki c) (Ki c')) (k (g c x y)) none
 | x,y=>oB k (f x y)
def Aq(x:EV)(h:Aa)(k:EV->R):R:=Jj (fun i off=>oB (fun l=>match l with | [v]=>k v|_=>none) (Ahp (h.get i) off 1)) x
def Cm(n:Nat)(x:EV)(h:Aa)(k:EV->R):R:=Jj (fun i off=>oB (fun l=>k (.agg l)) (Ahp (h.get i) off n)) x
def Jq(n:Nat)(a v:EV)(h:Aa)(k:Aa->R):R:=Jj (fun i off=>An v.plain (An (Nat.beq (Jz v.cells) n) (Sv h i (fun l=>Jl l off v.cells) k) none) none) a
def I5(s:Nat)(x ix:EV)(k:EV->R):R:=Asf (fun j=>match x with | .slice i off len _ _=>An (Nat.ble (Nat.succ j) len) (k (.ptr i (Nat.add off (Nat.mul j s)))) none|_=>none) ix
end
section
variable {e a b x ix:EF}{k:KF}{c1 c2:CF}{tm:Ag}{h:Aa}{ds:List Nat}{n m s:Nat}{g:IG}{f:EV->EV->Option EV}
theorem A11(c:IntKind)(a b:Int):G4 c a b=.bool (ltI a b):=rfl
theorem A00(c:IntKind)(a b:Int):Ad9 c a b=.bool (Y2 (ltI b a)):=rfl
theorem A1f(c:IntKind)(a b:Int):Y8 c a b=.bool (ltI b a):=rfl
theorem A2g(c:IntKind)(a b:Int):Wa c a b=.bool (Y2 (ltI a b)):=rfl
theorem A17(c:IntKind)(a b:Int):Jg c a b=.bool (eqI a b):=rfl
theorem A16(c:IntKind)(a b:Int):Jr c a b=.bool (Y2 (eqI a b)):=rfl
theorem A2c(c:IntKind)(a b:Int):Hh c a b=.int c (Dc c (A10 a b)):=rfl
theorem A25:Y2 true=false:=rfl
theorem Amp:L9 e k tm h ds=Aq (e tm) h (fun v=>k v tm h ds):=by
 unfold L9 Aq Jj
 cases e tm <;> try rfl
 rename_i i off
 simp only
 have key:∀ (L:List EV) (o:Nat),oB (fun v=>k v tm h ds) (Ag0 L o)=oB (fun l=>match l with | [v]=>k v tm h ds|_=>none) (N0 L o 1):=by
  intro L o
  rw[Aed,<-List.head?_drop,Vc,Km]
  cases L.drop o with
  | nil=>rfl
  | cons b r=>cases r <;> rfl
 unfold Ahp Ut
 cases h.get i with
 | none=>rfl
 | some x=>
  cases x <;> try rfl
  ·exact key _ _
  ·exact key _ _
  ·rename_i ws r0
   simp only
   cases Aha ws off with
   | none=>rfl
   | some x=>exact key _ _
theorem Al9:Aox n e k tm h ds=Cm n (e tm) h (fun v=>k v tm h ds):=by
 unfold Aox Cm Jj
 cases e tm <;> try rfl
 rename_i i off
 simp only
 unfold Ahp Ut
 cases h.get i with
 | none=>rfl
 | some x=>
  cases x <;> try rfl
  rename_i ws r0
  simp only
  cases Aha ws off <;> rfl
theorem Ak4 {i:Nat}{l:List EV}{t:TypeId}(hg:h.get i=some (.cells l t))(F:List EV->Option (List EV))(k:Aa->R):Sv h i F k=oB (fun l'=>k (h.put i (.cells l' t))) (F l):=by
 unfold Sv;rw[hg]
theorem Al5:Ajj s e ix k tm h ds=I5 s (e tm) (ix tm) (fun v=>k v tm h ds):=by
 unfold Ajj I5
 cases e tm <;> rfl
theorem A1n {q off ln rm:Nat}{op:Bool}{j:Nat}(hj:j<ln)(k:EV->R)(c:IntKind):I5 s (.slice q off ln rm op) (.int c (.ofNat j)) k=k (.ptr q (off+j*s)):=by
 show An (Nat.ble (Nat.succ j) ln) _ none=_
 rw[Nat.ble_eq_true_of_le hj,Ak];rfl
theorem As3(c:CF->CF)(m:Nat):Ahv c (m+1)=c (Ahv c m):=rfl
end
end Go.Ev

namespace Go.Ev
def Has(h:Aa)(l:List (Nat × Cx)):Prop:=∀ x ∈ l,h.get x.1=some x.2/\x.1<h.next
theorem Has.nil(h:Aa):Has h []:=fun _ hx=>by cases hx
section
variable {T:D1}{call round:Ac}{K:Nat}
theorem Abk {disp:Nat->Option FT}{g:Nat}{F:FT}(h:disp g=some F)(d:Nat)(args:List EV)(hp:Aa):
 Ad T disp K (d+1) false g args hp=F (Ad T disp K d false) (Ad T disp K d true) K args hp:=by
 have e:Ad T disp K (d+1) false g args hp = @Option.rec FT (fun _=>FnT) (Ab5 T (Ad T disp K d false) (Ad T disp K d true) K g) (fun F=>F (Ad T disp K d false) (Ad T disp K d true) K) (disp g) args hp:=rfl
 rw[e,h]
theorem Abd(disp:Nat->Option FT)(d l:Nat)(args:List EV)(hp:Aa):
 Ad T disp K (d+1) true l args hp=Adi T (Ad T disp K d false) (Ad T disp K d true) K l args hp:=rfl
theorem Anr {n:Nat}{c:CF}{args:List EV}(hn:args.length<=n)(h:Aa):Ase n c args h=c (setArgs args 0 .nil) h []:=by
 unfold Ase
 rw[Dq,Nat.ble_eq_true_of_le hn,Ak,Zo]
variable {g n i t:Nat}{out:Nat->CF}{env:Env}{ret k:CF}{tm:Ag}{h:Aa}{ds:List Nat}
end
end Go.Ev

namespace Go.Ev
set_option maxRecDepth 100000
noncomputable section
def B2(c a b:EV)(k:EV->R):R:=onB (k a) (k b) c
def Ng(f:EV->EV->Option EV)(a b:EV)(k:EV->R):R:=oB k (f a b)
def Mp(v:EV)(k:EV->R):R:=onB (k (.bool false)) (k (.bool true)) v
def Ane(v:EV)(k:EV->R):R:=match v with | .int c n=>k (.int c (Dc c (Int.sub 0 n)))|_=>none
def Bp(v:EV)(k:EV->R):R:=Jj (fun i o=>k (.ptr i o)) v
def Ao(c:Nat)(v:EV)(k:EV->R):R:=Jj (fun i o=>k (.ptr i (Nat.add o c))) v
def Uj(len s:Nat)(v ix:EV)(k:EV->R):R:=Asf (fun j=>Jj (fun i off=>An (Nat.ble (Nat.succ j) len) (k (.ptr i (Nat.add off (Nat.mul j s)))) none) v) ix
def Ayq(len s:Nat)(agg:Bool)(n:Nat)(v ix:EV)(k:EV->R):R:=Asf (fun j=>Apg (fun cs=>An (Nat.ble (Nat.succ j) len) (Amj agg n cs (Nat.mul j s) k) none) v) ix
def Acz(off:Nat)(agg:Bool)(n:Nat)(v:EV)(k:EV->R):R:=Apg (fun cs=>Amj agg n cs off k) v
def Pn(c:IntKind)(v:EV)(k:EV->R):R:=A0k (fun _ n=>k (.int c (Dc c n))) v
def Cy(ix:Nat)(v:EV)(k:EV->R):R:=Axv (fun l=>oB k (Ag0 l ix)) v
def J6(o:Cx)(h:Aa)(k:EV->Aa->R):R:=k (.ptr h.next 0) (h.new o)
def Dx(t:TypeId)(v:EV)(h:Aa)(k:EV->Aa->R):R:=An v.plain (k (.ptr h.next 0) (h.new (.cells v.cells t))) none
def I4(v:EV)(k:EV->R):R:=oB (fun n=>k (.int .i64 (.ofNat n))) (lenOf v)
def Aj(x:R)(k:EV->Aa->R):R:=oB (Ae2 k) x
def Uq(c r:Ac)(f:EV)(args:List EV)(h:Aa):R:=match f with
 | .func g a cs=>c g (Atb a (Atb args cs)) h
 | .Ug l=>r l args h
 | _=>none
def C4(place:Nat->Option (Nat × Nat))(z:List EV)(ps:List (Nat × EV))(k:EV->R):R:=oB (fun c=>k (.agg c)) (Uv place ps z)
def Afa(n:Nat)(v:EV)(k:EV->R):R:=match v with | .slice i off len _ _=>An (Nat.ble n len) (k (.ptr i off)) none|_=>none
def Ao0(s:Nat)(v:EV)(lo hi mx:Option EV)(k:EV->R):R:=oB k (slc v s lo hi mx)
def Zj(n s:Nat)(v:EV)(lo hi mx:Option EV)(k:EV->R):R:=Jj (fun i off=>oB k (slc (.slice i off n n false) s lo hi mx)) v
def Ny(z:List EV)(e:TypeId)(l c:EV)(h:Aa):R:=X2 z e (fun _=>l) (fun _=>c) .nil h
def B4(z:List EV)(e:TypeId)(s n:Nat)(ps:List (Nat × EV))(h:Aa):R:=Qt z e s n (fun _=>ps) .nil h
def Aef(h:Aa):R:=some (.map h.next,h.new (.map []))
def Ab0(s:EV)(h:Aa):R:=Abx (fun _=>s) .nil h
def Afd(T:D1)(kt e:TypeId)(ok:Bool)(m ix:EV)(h:Aa):R:=Ais T kt e ok (fun _=>m) (fun _=>ix) .nil h
def T2(T:D1)(kt:TypeId)(m ix x:EV)(h:Aa):R:=Xy T kt (fun _=>m) (fun _=>ix) (fun _=>x) .nil h
def Akq(c x:EV)(h:Aa):R:=Amb (fun _=>c) (fun _=>x) .nil h
def Ajg(z:EV)(c:EV)(h:Aa):R:=Al1 z (fun _=>c) .nil h
def Anq(c:EV)(h:Aa):R:=Aor (fun _=>c) .nil h
def Et(v:EV)(x y:R):R:=onB x y v
inductive RV where
 | v (x:EV)
 | c (a:EV) (t:TypeId)
def Ae7(tm:Ag):ResultVar->RV
 | .tmp t=>.v (tmp tm t)
 | .cell a t=>.c (tmp tm a) t
def Alu(T:D1)(h:Aa):List RV->Option (List EV)
 | []=>some []
 | .v x::r=>match Alu T h r with|some l=>some (x::l)|none=>none
 | .c a t::r=>match a,Alu T h r,T.size t with
  | .ptr i off,some l,some n=>match F3 h i off n with
   | some cs=>match T.agg t with
    | some true=>some (.agg cs::l)
    | some false=>(match cs with | [v]=>some (v::l)|_=>none)
    | none=>none
   | none=>none
  | _,_,_=>none
def Jh(T:D1)(l:List RV)(h:Aa):R:=match Alu T h l with|some [v]=>some (v,h)|some l=>some (.tuple l,h)|none=>none
def Ajt(l:Nat)(v:Bool)(st:LoopState)(jump:Option Code)(h:Aa):R:=Bi l v st jump .nil h []
def Fj(l:Nat)(h:Aa)(k:Aa->R):R:=match h.get l with
 | some (.loop .ready p f n' tm' ps asg body d)=>k (h.put l (.loop .busy p f n' tm' ps asg body d))
 | _=>none
def A1x(l:Nat)(r:R)(k:Aa->R)(ex:Nat->Aa->R)(ret:Aa->R):R:=match r with
 | none=>none
 | some (_,h)=>match h.get l with
  | some (.loop st p f n' tm' ps asg body d)=>match st with
   | .busy=>none
   | _=>match p with
    | none=>k (h.put l (.loop .exhausted p f n' tm' ps asg body d))
    | some (.exit id)=>ex id (h.put l (.loop .exhausted p f n' tm' ps asg body d))
    | some .ret=>ret (h.put l (.loop .exhausted p f n' tm' ps asg body d))
    | some _=>none
  | _=>none
def Xd(c:Ac)(T:D1)(g n i:Nat)(f:EV)(tm:Ag)(h:Aa)(ds:List Nat)(k:Aa->List Nat->R)(ex:Nat->Aa->List Nat->R)(ret:Aa->List Nat->R):R:=match f with
 | .func q first captured=>A1x (Nat.succ h.next) (c q (first++(.Ug (Nat.succ h.next)::captured)) ((h.new (.deferred true)).new (.loop .ready none g n tm (Cs T g i).2.1 (Cs T g i).2.2.1 (Cs T g i).2.2.2 h.next)))
  (fun h'=>k h' (h.next::ds)) (fun id h'=>ex id h' (h.next::ds)) (fun h'=>ret h' (h.next::ds))
 | _=>none
def Aiu(c:Ac)(T:D1)(g n i l0:Nat)(f:EV)(tm:Ag)(h:Aa)(ds:List Nat)(k:Aa->List Nat->R)(ex:Nat->Aa->List Nat->R)(ret:Aa->List Nat->R):R:=match f with
 | .func q first captured=>match h.get l0 with
  | some (.loop _ _ _ _ _ _ _ _ d)=>A1x h.next (c q (first++(.Ug h.next::captured)) (h.new (.loop .ready none g n tm (Cs T g i).2.1 (Cs T g i).2.2.1 (Cs T g i).2.2.2 d)))
   (fun h'=>k h' ds) (fun id h'=>ex id h' ds) (fun h'=>ret h' ds)
  | _=>none
 | _=>none
def Gf(h:Aa)(k:Nat->DX->R):R:=k h.next ⟨0,[],[],[],[]⟩
def Bm(i b base:Nat)(x:EV)(s:DX)(k:DX->R):R:=Jj (fun q _=>An (Aaw b base q s) (k (s.ld i q)) none) x
def Aax(i:Nat)(h:Aa)(s:DX)(k:DX->R):R:=k (s.new i h.next)
def Afl(i b:Nat)(x:EV)(s:DX)(k:DX->R):R:=Jj (fun q _=>An (Ag3 b q s) (k (s.Wq i q)) none) x
def A5z(h:Aa)(k:Aa->R):R:=k ⟨.nil,h.next,h.next⟩
def Ct(i b:Nat)(s:DX)(h:Aa)(call:Aa->R)(k:EV->Aa->DX->R):R:=An (Po b s) (Aj (call (Ei b s h)) fun v h'=>G3 i b s h h' fun s h=>k v h s) none
end
section
variable {e a b x y ix lo':EF}{k:KF}{c1 c2:CF}{tm:Ag}{h:Aa}{ds:List Nat}{T:D1}{call round:Ac}
theorem Aja(place:Nat->Option (Nat × Nat))(z:List EV)(ps:Ag->List (Nat × EV)):Vg (Akt place z ps) k tm h ds=C4 place z (ps tm) (fun v=>k v tm h ds):=by
 unfold Vg Akt C4
 cases Uv place (ps tm) z <;> rfl
theorem Axr:Vg (Azl e) k tm h ds=Ane (e tm) (fun v=>k v tm h ds):=by
 unfold Vg Azl Ane
 cases e tm <;> rfl
theorem Au6(n:Nat):Vg (Apn n e) k tm h ds=Afa n (e tm) (fun v=>k v tm h ds):=by
 unfold Vg Apn Afa
 cases e tm <;> try rfl
 rename_i i off len a b
 simp only
 cases Nat.ble n len <;> rfl
theorem Aun(n s:Nat)(lo hi mx:Ag->Option EV):Vg (Af6 n s e lo hi mx) k tm h ds=Zj n s (e tm) (lo tm) (hi tm) (mx tm) (fun v=>k v tm h ds):=by
 unfold Vg Af6 Zj Jj
 cases e tm <;> rfl
theorem Ai4(xs:Ag->List EV):Ad4 call round e xs k tm h ds=Aj (Uq call round (e tm) (xs tm) h) (fun v h=>k v tm h ds):=by
 unfold Ad4 Uq Aj
 cases e tm <;> rfl
theorem A0s(res:List ResultVar):Agh T res tm h=Jh T (res.map (Ae7 tm)) h:=by
 have hv:∀ l:List ResultVar,G1 T tm h l=Alu T h (l.map (Ae7 tm)):=by
  intro l
  induction l with
  | nil=>rfl
  | cons a r ih=>
   cases a with
   | tmp t=>simp only[G1,List.map_cons,Ae7,Alu,ih];rfl
   | cell a t=>
    simp only[G1,List.map_cons,Ae7,Alu,ih]
    cases tmp tm a <;> rfl
 rw[At8]
 unfold Avx Jh
 rw[hv]
 rfl
theorem A3u(res:List ResultVar):Agw T res tm h ds=Eh ds h (fun h=>Jh T (res.map (Ae7 tm)) h):=by
 have:Agh T res tm=fun h=>Jh T (res.map (Ae7 tm)) h:=funext fun h=>A0s res
 show Eh ds h (Agh T res tm)=_
 rw[this]
theorem A0r {l:Nat}:Px l c1 tm h ds=Fj l h (fun h=>c1 tm h ds):=by
 unfold Px Fj
 cases h.get l with
 | none=>rfl
 | some o=>
  cases o <;> try rfl
theorem As1 {l:Nat}{v:Bool}{st:LoopState}{j:Option Code}:Bi l v st j tm h ds=Ajt l v st j h:=by
 unfold Ajt Bi
 rfl
theorem Akh {g n i:Nat}{out:Nat->CF}{env:Env}{ret kk:CF}{o:Operand}(ho:(Cs T g i).1=o):Ac1 T call g n none i out env ret kk tm h ds =
 match Bg tm o with
 | some f=>Xd call T g n i f tm h ds (fun h ds=>kk tm h ds) (fun id h ds=>Alp out env id tm h ds) (fun h ds=>ret tm h ds)
 | none=>none:=by
 subst ho
 unfold Ac1 Agz
 cases Bg tm (Cs T g i).1 with
 | none=>rfl
 | some f=>
  cases f <;> rfl
theorem Agc {g n i l0:Nat}{out:Nat->CF}{env:Env}{ret kk:CF}{o:Operand}(ho:(Cs T g i).1=o):Ac1 T call g n (some l0) i out env ret kk tm h ds =
 match Bg tm o with
 | some f=>Aiu call T g n i l0 f tm h ds (fun h ds=>kk tm h ds) (fun id h ds=>Alp out env id tm h ds) (fun h ds=>ret tm h ds)
 | none=>none:=by
 subst ho
 unfold Ac1 Agz
 cases Bg tm (Cs T g i).1 with
 | none=>rfl
 | some f=>
  cases f <;> rfl
theorem Adr(t:Nat):Bg tm (.tmp t)=some (tmp tm t):=rfl
theorem Ada(f:Nat):Bg tm (.func f)=some (.func f [] []):=rfl
theorem Aj0(out:Nat->CF)(id:Nat):Alp out [] id=out id:=rfl
theorem Adz {K l:Nat}{args:List EV}{st:LoopState}{p:Option Code}{f n:Nat}{tm tm':Ag}{ps:List Tmp}{asg body:Code}{d:Nat}(hg:h.get l=some (.loop st p f n tm ps asg body d))(hs:K0 ps args n tm=some tm'):
 Adi T call round K l args h=Mg T call round K f n (some l) (fun id=>Bi l false .done (some (.exit id))) (Bi l false .done (some .ret)) asg []
  (Px l (Mg T call round K f n (some l) (fun id=>Bi l false .done (some (.exit id))) (Bi l false .done (some .ret)) body [] (Bi l true .ready none))) tm' h []:=by
 unfold Adi
 rw[hg]
 simp only
 rw[hs]
theorem lq {m n d:Nat}(h:n<=d)(e:Nat.ble m n=true):m<=d:=Nat.le_trans (Nat.le_of_ble_eq_true e) h
end
theorem dd:
 (∀ (e:EF) (p:PF) (c:CF) (tm:Ag) (h:Aa) (ds:List Nat),mv e p c tm h ds=c (p (some (e tm)) tm) h ds) /\
 (∀ (e:EF) (k:KF) (tm:Ag) (h:Aa) (ds:List Nat),A0o e k tm h ds=k (e tm) tm h ds) /\
 (∀ (p:PF) (c:CF) (v:EV) (tm:Ag) (h:Aa) (ds:List Nat),put p c v tm h ds=c (p (some v) tm) h ds) /\
 (∀ (c:CF) (v:EV) (tm:Ag) (h:Aa) (ds:List Nat),Ah4 c v tm h ds=c tm h ds) /\
 (∀ (v:EV) (tm:Ag),Lf v tm=v) /\
 (∀ (c a b:EF) (k:KF) (tm:Ag) (h:Aa) (ds:List Nat),Apv c a b k tm h ds=B2 (c tm) (a tm) (b tm) (fun v=>k v tm h ds)) /\
 (∀ (g:IG) (f:EV->EV->Option EV) (a b:EF) (k:KF) (tm:Ag) (h:Aa) (ds:List Nat),Apb g f a b k tm h ds=Ar g f (a tm) (b tm) (fun v=>k v tm h ds)) /\
 (∀ (f:EV->EV->Option EV) (a b:EF) (k:KF) (tm:Ag) (h:Aa) (ds:List Nat),A5a f a b k tm h ds=Ng f (a tm) (b tm) (fun v=>k v tm h ds)) /\
 (∀ (e:EF) (k:KF) (tm:Ag) (h:Aa) (ds:List Nat),Axb e k tm h ds=Mp (e tm) (fun v=>k v tm h ds)) /\
 (∀ (e:EF) (k:KF) (tm:Ag) (h:Aa) (ds:List Nat),A3s e k tm h ds=Bp (e tm) (fun v=>k v tm h ds)) /\
 (∀ (c:Nat) (e:EF) (k:KF) (tm:Ag) (h:Aa) (ds:List Nat),Akw c e k tm h ds=Ao c (e tm) (fun v=>k v tm h ds)) /\
 (∀ (len s:Nat) (e ix:EF) (k:KF) (tm:Ag) (h:Aa) (ds:List Nat),Ayo len s e ix k tm h ds=Uj len s (e tm) (ix tm) (fun v=>k v tm h ds)) /\
 (∀ (s:Nat) (e ix:EF) (k:KF) (tm:Ag) (h:Aa) (ds:List Nat),Ajj s e ix k tm h ds=I5 s (e tm) (ix tm) (fun v=>k v tm h ds)) /\
 (∀ (len s:Nat) (agg:Bool) (n:Nat) (e ix:EF) (k:KF) (tm:Ag) (h:Aa) (ds:List Nat),Azk len s agg n e ix k tm h ds=Ayq len s agg n (e tm) (ix tm) (fun v=>k v tm h ds)) /\
 (∀ (off:Nat) (agg:Bool) (n:Nat) (e:EF) (k:KF) (tm:Ag) (h:Aa) (ds:List Nat),Asq off agg n e k tm h ds=Acz off agg n (e tm) (fun v=>k v tm h ds)) /\
 (∀ (c:IntKind) (e:EF) (k:KF) (tm:Ag) (h:Aa) (ds:List Nat),A2p c e k tm h ds=Pn c (e tm) (fun v=>k v tm h ds)) /\
 (∀ (ix:Nat) (e:EF) (k:KF) (tm:Ag) (h:Aa) (ds:List Nat),A2r ix e k tm h ds=Cy ix (e tm) (fun v=>k v tm h ds)) /\
 (∀ (e:EF) (k:KF) (tm:Ag) (h:Aa) (ds:List Nat),L9 e k tm h ds=Aq (e tm) h (fun v=>k v tm h ds)) /\
 (∀ (n:Nat) (e:EF) (k:KF) (tm:Ag) (h:Aa) (ds:List Nat),Aox n e k tm h ds=Cm n (e tm) h (fun v=>k v tm h ds)) /\
 (∀ (n:Nat) (a x:EF) (k:KF) (tm:Ag) (h:Aa) (ds:List Nat),Xw n a x k tm h ds=Jq n (a tm) (x tm) h (fun h=>k (.tuple []) tm h ds)) /\
 (∀ (z:List EV) (t:TypeId) (k:KF) (tm:Ag) (h:Aa) (ds:List Nat),Agg z t k tm h ds=J6 (.cells z t) h (fun v h=>k v tm h ds)) /\
 (∀ (t:TypeId) (e:EF) (k:KF) (tm:Ag) (h:Aa) (ds:List Nat),A0c t e k tm h ds=Dx t (e tm) h (fun v h=>k v tm h ds)) /\
 (∀ (e:EF) (k:KF) (tm:Ag) (h:Aa) (ds:List Nat),A3l e k tm h ds=I4 (e tm) (fun v=>k v tm h ds)) /\
 (∀ (call:Ac) (g:Nat) (xs:Ag->List EV) (k:KF) (tm:Ag) (h:Aa) (ds:List Nat),Ahd call g xs k tm h ds=Aj (call g (xs tm) h) (fun v h=>k v tm h ds)) /\
 (∀ (call round:Ac) (e:EF) (xs:Ag->List EV) (k:KF) (tm:Ag) (h:Aa) (ds:List Nat),Ad4 call round e xs k tm h ds=Aj (Uq call round (e tm) (xs tm) h) (fun v h=>k v tm h ds)) /\
 (∀ (e:TypeId) (size:Nat) (s x:EF) (k:KF) (tm:Ag) (h:Aa) (ds:List Nat),Jo (At6 e size s x) k tm h ds=Aj (C8 e size (s tm) (x tm) h) (fun v h=>k v tm h ds)) /\
 (∀ (T:D1) (b:Builtin) (ts:Array TypeId) (xs:Ag->List EV) (k:KF) (tm:Ag) (h:Aa) (ds:List Nat),Jo (Afm T b ts xs) k tm h ds=Aj (builtin T b ts (xs tm) h) (fun v h=>k v tm h ds)) /\
 (∀ (z:List EV) (t:TypeId) (l c:EF) (k:KF) (tm:Ag) (h:Aa) (ds:List Nat),Jo (X2 z t l c) k tm h ds=Aj (Ny z t (l tm) (c tm) h) (fun v h=>k v tm h ds)) /\
 (∀ (z:List EV) (t:TypeId) (s n:Nat) (ps:Ag->List (Nat × EV)) (k:KF) (tm:Ag) (h:Aa) (ds:List Nat),Jo (Qt z t s n ps) k tm h ds=Aj (B4 z t s n (ps tm) h) (fun v h=>k v tm h ds)) /\
 (∀ (k:KF) (tm:Ag) (h:Aa) (ds:List Nat),Jo Aj1 k tm h ds=Aj (Aef h) (fun v h=>k v tm h ds)) /\
 (∀ (s:EF) (k:KF) (tm:Ag) (h:Aa) (ds:List Nat),Jo (Abx s) k tm h ds=Aj (Ab0 (s tm) h) (fun v h=>k v tm h ds)) /\
 (∀ (T:D1) (kt t:TypeId) (ok:Bool) (m ix:EF) (k:KF) (tm:Ag) (h:Aa) (ds:List Nat),Jo (Ais T kt t ok m ix) k tm h ds=Aj (Afd T kt t ok (m tm) (ix tm) h) (fun v h=>k v tm h ds)) /\
 (∀ (T:D1) (kt:TypeId) (m ix x:EF) (k:KF) (tm:Ag) (h:Aa) (ds:List Nat),Jo (Xy T kt m ix x) k tm h ds=Aj (T2 T kt (m tm) (ix tm) (x tm) h) (fun v h=>k v tm h ds)) /\
 (∀ (c x:EF) (k:KF) (tm:Ag) (h:Aa) (ds:List Nat),Jo (Amb c x) k tm h ds=Aj (Akq (c tm) (x tm) h) (fun v h=>k v tm h ds)) /\
 (∀ (z:EV) (c:EF) (k:KF) (tm:Ag) (h:Aa) (ds:List Nat),Jo (Al1 z c) k tm h ds=Aj (Ajg z (c tm) h) (fun v h=>k v tm h ds)) /\
 (∀ (c:EF) (k:KF) (tm:Ag) (h:Aa) (ds:List Nat),Jo (Aor c) k tm h ds=Aj (Anq (c tm) h) (fun v h=>k v tm h ds)) /\
 (∀ (place:Nat->Option (Nat × Nat)) (z:List EV) (ps:Ag->List (Nat × EV)) (k:KF) (tm:Ag) (h:Aa) (ds:List Nat),Vg (Akt place z ps) k tm h ds=C4 place z (ps tm) (fun v=>k v tm h ds)) /\
 (∀ (f:Nat) (xs cs:Ag->List EV) (k:KF) (tm:Ag) (h:Aa) (ds:List Nat),Vg (Ama f xs cs) k tm h ds=k (.func f (xs tm) (cs tm)) tm h ds) /\
 (∀ (e:EF) (k:KF) (tm:Ag) (h:Aa) (ds:List Nat),Vg (Azl e) k tm h ds=Ane (e tm) (fun v=>k v tm h ds)) /\
 (∀ (n:Nat) (e:EF) (k:KF) (tm:Ag) (h:Aa) (ds:List Nat),Vg (Apn n e) k tm h ds=Afa n (e tm) (fun v=>k v tm h ds)) /\
 (∀ (n s:Nat) (e:EF) (lo hi mx:Ag->Option EV) (k:KF) (tm:Ag) (h:Aa) (ds:List Nat),Vg (Af6 n s e lo hi mx) k tm h ds=Zj n s (e tm) (lo tm) (hi tm) (mx tm) (fun v=>k v tm h ds)) /\
 (∀ (s:Nat) (e:EF) (lo hi mx:Ag->Option EV) (k:KF) (tm:Ag) (h:Aa) (ds:List Nat),Vg (A50 s e lo hi mx) k tm h ds=Ao0 s (e tm) (lo tm) (hi tm) (mx tm) (fun v=>k v tm h ds)) /\
 (∀ (w:Ag->Bool) (yes:CF) (no:KF) (tm:Ag) (h:Aa) (ds:List Nat),Aai w yes no tm h ds=An (w tm) (yes tm h ds) (no (.tuple []) tm h ds)) /\
 (∀ (w:Ag->Bool) (yes no:CF) (tm:Ag) (h:Aa) (ds:List Nat),Aoo w yes no tm h ds=An (w tm) (yes tm h ds) (no tm h ds)) /\
 (∀ (e:EF) (a b:CF) (tm:Ag) (h:Aa) (ds:List Nat),Aer e a b tm h ds=Et (e tm) (a tm h ds) (b tm h ds)) /\
 (∀ (tm:Ag) (h:Aa) (ds:List Nat),C3 tm h ds=none) /\
 (∀ (tm:Ag) (h:Aa) (ds:List Nat),A4v tm h ds=Eh ds h fun h=>some (.tuple [],h)) /\
 (∀ (p:EF) (tm:Ag) (h:Aa) (ds:List Nat),A7d p tm h ds=Eh ds h fun h=>some (p tm,h)) /\
 (∀ (p q:EF) (tm:Ag) (h:Aa) (ds:List Nat),A7s p q tm h ds=Eh ds h fun h=>some (.tuple [p tm,q tm],h)) /\
 (∀ (T:D1) (res:List ResultVar) (tm:Ag) (h:Aa) (ds:List Nat),Agw T res tm h ds=Eh ds h (fun h=>Jh T (res.map (Ae7 tm)) h)) /\
 (∀ (h:Aa) (k:Aa->R),Eh [] h k=k h) /\
 (∀ (l:Nat) (c:CF) (tm:Ag) (h:Aa) (ds:List Nat),Px l c tm h ds=Fj l h (fun h=>c tm h ds)) /\
 (∀ (l:Nat) (v:Bool) (st:LoopState) (j:Option Code) (tm:Ag) (h:Aa) (ds:List Nat),Bi l v st j tm h ds=Ajt l v st j h) /\
 (∀ (k:Nat->DX->CF) (tm:Ag) (h:Aa) (ds:List Nat),A2o k tm h ds=Gf h (fun base s=>k base s tm h ds)) /\
 (∀ (i b base:Nat) (e:EF) (s:DX) (k:DX->CF) (tm:Ag) (h:Aa) (ds:List Nat),A2l i b base e s k tm h ds=Bm i b base (e tm) s (fun s=>k s tm h ds)) /\
 (∀ (i:Nat) (s:DX) (k:DX->CF) (tm:Ag) (h:Aa) (ds:List Nat),A5i i s k tm h ds=Aax i h s (fun s=>k s tm h ds)) /\
 (∀ (i b:Nat) (e:EF) (s:DX) (k:DX->CF) (tm:Ag) (h:Aa) (ds:List Nat),A4n i b e s k tm h ds=Afl i b (e tm) s (fun s=>k s tm h ds)) /\
 (∀ (o:OC) (k:KF) (tm:Ag) (h:Aa) (ds:List Nat),A5r o k tm h ds=o (fun v tm _ ds=>k v tm h ds) tm ⟨.nil,h.next,h.next⟩ ds) /\
 (∀ (i b:Nat) (s:DX) (o:OC) (k:DX->KF) (tm:Ag) (h:Aa) (ds:List Nat),A4x i b s o k tm h ds=An (Po b s) (o (fun v tm h' ds=>G3 i b s h h' (fun s h=>k s v tm h ds)) tm (Ei b s h) ds) none) /\
 (∀ (h:Aa) (k:Aa->R),A5z h k=k ⟨.nil,h.next,h.next⟩) /\
 (∀ (i b:Nat) (s:DX) (h:Aa) (call:Aa->R) (k:EV->Aa->DX->R),Ct i b s h call k=An (Po b s) (Aj (call (Ei b s h)) fun v h'=>G3 i b s h h' fun s h=>k v h s) none) /\
 (∀ (tm:Ag) (t:Nat),Ae7 tm (.tmp t)=.v (tmp tm t))/\(∀ (tm:Ag) (a t:Nat),Ae7 tm (.cell a t)=.c (tmp tm a) t) /\
 (∀ (tm:Ag) (j i:Nat) (v:EV),tmp (tm.put j (some v)) i=if j=i then v else tmp tm i) /\
 (∀ (t:Nat),tmp .nil t=.tuple []) /\
 (∀ (a:EV) (l:List EV) (i:Nat) (t:Tr EV),setArgs (a::l) i t=setArgs l (i+1) (t.put i (some a)))/\(∀ (b:Bool) (f g:CF) (tm:Ag) (h:Aa) (ds:List Nat),An b f g tm h ds=An b (f tm h ds) (g tm h ds))/\(∀ (i:Nat) (t:Tr EV),setArgs [] i t=t) /\
 (∀ (tm:Ag) (a:ResultVar) (l:List ResultVar),List.map (Ae7 tm) (a::l)=Ae7 tm a::List.map (Ae7 tm) l)/\(∀ (tm:Ag),List.map (Ae7 tm) [] = []):=
 ⟨fun _ _ _ _ _ _=>rfl,fun _ _ _ _ _=>rfl,fun _ _ _ _ _ _=>rfl,fun _ _ _ _ _=>rfl,fun _ _=>rfl,fun _ _ _ _ _ _ _=>rfl,fun _ _ _ _ _ _ _ _=>rfl,fun _ _ _ _ _ _ _=>rfl,
  fun _ _ _ _ _=>rfl,fun _ _ _ _ _=>rfl,fun _ _ _ _ _ _=>rfl,fun _ _ _ _ _ _ _ _=>rfl,fun _ _ _ _ _ _ _=>Al5,fun _ _ _ _ _ _ _ _ _ _=>rfl,fun _ _ _ _ _ _ _ _=>rfl,fun _ _ _ _ _ _=>rfl,fun _ _ _ _ _ _=>rfl,
  fun _ _ _ _ _=>Amp,fun _ _ _ _ _ _=>Al9,fun _ _ _ _ _ _ _=>rfl,fun _ _ _ _ _ _=>rfl,fun _ _ _ _ _ _=>rfl,fun _ _ _ _ _=>rfl,fun _ _ _ _ _ _ _=>rfl,fun _ _ _ _ _ _ _ _=>Ai4 _,
  fun _ _ _ _ _ _ _ _=>rfl,fun _ _ _ _ _ _ _ _=>rfl,fun _ _ _ _ _ _ _ _=>rfl,fun _ _ _ _ _ _ _ _ _=>rfl,fun _ _ _ _=>rfl,fun _ _ _ _ _=>rfl,fun _ _ _ _ _ _ _ _ _ _=>rfl,fun _ _ _ _ _ _ _ _ _=>rfl,
  fun _ _ _ _ _ _=>rfl,fun _ _ _ _ _ _=>rfl,fun _ _ _ _ _=>rfl,fun _ _ _ _ _ _ _=>Aja _ _ _,fun _ _ _ _ _ _ _=>rfl,fun _ _ _ _ _=>Axr,fun _ _ _ _ _ _=>Au6 _,fun _ _ _ _ _ _ _ _ _ _=>Aun _ _ _ _ _,fun _ _ _ _ _ _ _ _ _=>rfl,
  fun _ _ _ _ _ _=>rfl,fun _ _ _ _ _ _=>rfl,fun _ _ _ _ _ _=>rfl,fun _ _ _=>rfl,fun _ _ _=>rfl,fun _ _ _ _=>rfl,fun _ _ _ _ _=>rfl,fun _ _ _ _ _=>A3u _,fun _ _=>rfl,fun _ _ _ _ _=>A0r,fun _ _ _ _ _ _ _=>As1,
  fun _ _ _ _=>rfl,fun _ _ _ _ _ _ _ _ _=>rfl,fun _ _ _ _ _ _=>rfl,fun _ _ _ _ _ _ _ _=>rfl,fun _ _ _ _ _=>rfl,fun _ _ _ _ _ _ _ _=>rfl,fun _ _=>rfl,fun _ _ _ _ _ _=>rfl,
  fun _ _=>rfl,fun _ _ _=>rfl,Kl,fun _=>rfl,fun _ _ _ _=>rfl,fun b _ _ _ _ _=>(by cases b <;> rfl),fun _ _=>rfl,fun _ _ _=>rfl,fun _=>rfl⟩
end Go.Ev

namespace Go.Ev
noncomputable section
abbrev VS:=Nat->EV
abbrev CD:=VS->Aa->R
abbrev Avh(ρ:VS)(d:Nat)(v:EV):VS:=fun i=>An (Nat.beq d i) v (ρ i)
abbrev C6(ρ:VS)(x:Operand):Option EV:=match x with
 | .tmp t=>some (ρ t)
 | .const v=>ofV v
 | .global _=>none
 | .func f=>some (.func f [] [])
abbrev Ad3(ρ:VS)(l:List Operand):Option (List EV):=@List.rec Operand (fun _=>Option (List EV)) (some []) (fun x _ ih=>match C6 ρ x,ih with|some e,some es=>some (e::es)|_,_=>none) l
abbrev Aif(ρ:VS)(l:List (Nat × Operand)):Option (List (Nat × EV)):=@List.rec (Nat × Operand) (fun _=>Option (List (Nat × EV))) (some []) (fun x _ ih=>match C6 ρ x.2,ih with|some e,some es=>some ((x.1,e)::es)|_,_=>none) l
abbrev Am4(ρ:VS)(x:Option Operand):Option (Option EV):=match x with
 | none=>some none
 | some x=>(match C6 ρ x with|some e=>some (some e)|none=>none)
abbrev Rx(T:D1)(call callV round:Ac)(op:Op)(ρ:VS)(h:Aa)(k:EV->Aa->R):R:=
 match op with
 | .move x=>(match C6 ρ x with|some e=>k e h|none=>none)
 | .assign x=>(match C6 ρ x with|some e=>k e h|none=>none)
 | .pick c a b=>(match C6 ρ c,C6 ρ a,C6 ρ b with|some c,some a,some b=>B2 c a b fun v=>k v h|_,_,_=>none)
 | .binOp op t x y _=>(match C6 ρ x,C6 ρ y with
  | some a,some b=>(match A0t op with|some g=>Ar g (bin T op t) a b fun v=>k v h|none=>Ng (bin T op t) a b fun v=>k v h)
  | _,_=>none)
 | .unOp .not _ x=>(match C6 ρ x with|some e=>Mp e fun v=>k v h|none=>none)
 | .nilCheck x=>(match C6 ρ x with|some e=>Bp e fun v=>k v h|none=>none)
 | .fieldAddr s x f=>(match C6 ρ x,T.G8 s with
  | some e,some (.struct fields)=>(match Agq fields.toList f with
   | some fd=>(match T.size fd.type with|some n=>An (Nat.beq n 0) none (Ao fd.offset e fun v=>k v h)|none=>none)
   | none=>none)
  | _,_=>none)
 | .indexAddr t x ix=>(match C6 ρ x,C6 ρ ix,T.G8 t with
  | some e,some ix,some (.array len et)=>(match T.size et with|some s=>Uj len s e ix fun v=>k v h|none=>none)
  | some e,some ix,some (.slice et)=>(match T.size et with|some s=>I5 s e ix fun v=>k v h|none=>none)
  | _,_,_=>none)
 | .index t x ix=>(match C6 ρ x,C6 ρ ix,T.G8 t with
  | some e,some ix',some (.array len et)=>(match T.size et,T.agg et with|some s,some agg=>Ayq len s agg s e ix' fun v=>k v h|_,_=>none)
  | _,_,_=>none)
 | .field t x f=>(match C6 ρ x,T.G8 t with
  | some e,some (.struct fields)=>(match Agq fields.toList f with
   | some fd=>(match T.agg fd.type with
    | some true=>(match T.size fd.type with|some n=>Acz fd.offset true n e fun v=>k v h|none=>none)
    | some false=>Acz fd.offset false 0 e fun v=>k v h
    | none=>none)
   | none=>none)
  | _,_=>none)
 | .convert src dst x=>(match C6 ρ x,T.G8 src,T.G8 dst with|some e,some _,some (.int c)=>Pn c e fun v=>k v h|_,_,_=>none)
 | .extract x ix=>(match C6 ρ x with|some e=>Cy ix e fun v=>k v h|none=>none)
 | .load t x=>(match C6 ρ x,T.agg t with
  | some e,some true=>(match T.size t with|some n=>Cm n e h fun v=>k v h|none=>none)
  | some e,some false=>Aq e h fun v=>k v h
  | _,_=>none)
 | .store t a x=>(match C6 ρ a,C6 ρ x,T.size t with|some a,some x,some n=>Jq n a x h fun h=>k (.tuple []) h|_,_,_=>none)
 | .alloc t=>(match T.zero t with|some z=>J6 (.cells z t) h k|none=>none)
 | .box t x=>(match C6 ρ x with|some e=>Dx t e h k|none=>none)
 | .call { callee:=.value (.func g),args,.. }=>(match Ad3 ρ args.toList with|some xs=>Aj (call g xs h) k|none=>none)
 | .call { callee:=.value f,args,.. }=>(match C6 ρ f,Ad3 ρ args.toList with|some e,some xs=>Aj (Uq callV round e xs h) k|_,_=>none)
 | .call { callee:=.builtin .append,args,argTypes }=>(match args.toList,argTypes.toList with
  | [s,x],[t,u]=>(match C6 ρ s,C6 ρ x,T.G8 u,T.G8 t with
   | some a,some b,some (.slice _),some (.slice e)=>(match T.size e,T.zero e with
    | some size,some _=>Aj (C8 e size a b h) k
    | _,_=>none)
   | _,_,_,_=>none)
  | _,_=>none)
 | .call { callee:=.builtin .len,args,argTypes }=>(match args.toList,argTypes.toList with
  | [x],[t]=>(match C6 ρ x,T.G8 t with
   | some e,some (.slice _)=>I4 e fun v=>k v h
   | some e,some (.chan ..)=>Aj (Anq e h) k
   | some e,_=>Aj (builtin T .len argTypes [e] h) k
   | _,_=>none)
  | _,_=>none)
 | .call { callee:=.builtin b,args,argTypes }=>(match Ad3 ρ args.toList with|some xs=>Aj (builtin T b argTypes xs h) k|none=>none)
 | .unOp .neg _ x=>(match C6 ρ x with|some e=>Ane e fun v=>k v h|none=>none)
 | .build t ps=>(match T.zero t,Aif ρ ps.toList,T.G8 t with
  | some z,some l,some (.struct fields)=>(match placesOf T fields.toList with
   | some ps=>C4 (Gg ps) z l fun v=>k v h
   | none=>none)
  | some z,some l,some (.array _ e)=>(match T.size e with
   | some s=>C4 (Aec s) z l fun v=>k v h
   | none=>none)
  | _,_,_=>none)
 | .buildSlice t n ps=>(match T.G8 t,Aif ρ ps.toList with
  | some (.slice e),some l=>(match T.size e,T.zero e with
   | some s,some z=>Aj (B4 z e s n l h) k
   | _,_=>none)
  | _,_=>none)
 | .makeFunc (.func f) first captured=>(match Ad3 ρ first.toList,Ad3 ρ captured.toList with|some a,some b=>k (.func f a b) h|_,_=>none)
 | .sliceToArrayPointer t x=>(match C6 ρ x,T.G8 t with|some e,some (.array n _)=>Afa n e fun v=>k v h|_,_=>none)
 | .slice t x lo hi mx=>(match C6 ρ x,Am4 ρ lo,Am4 ρ hi,Am4 ρ mx with
  | some e,some lo,some hi,some mx=>(match T.G8 t with
   | some (.array n et)=>(match T.size et with|some s=>Zj n s e lo hi mx fun v=>k v h|none=>none)
   | some (.slice et)=>(match T.size et with|some s=>Ao0 s e lo hi mx fun v=>k v h|none=>none)
   | _=>none)
  | _,_,_,_=>none)
 | .makeSlice t l c=>(match C6 ρ l,C6 ρ c,T.G8 t with
  | some l,some c,some (.slice e)=>(match T.zero e with|some z=>Aj (Ny z e l c h) k|none=>none)
  | _,_,_=>none)
 | .makeMap _ none=>Aj (Aef h) k
 | .makeChan t s=>(match C6 ρ s,T.G8 t with
  | some s,some (.chan _ e)=>(match T.size e with|some _=>Aj (Ab0 s h) k|none=>none)
  | _,_=>none)
 | .lookup t x ix ok=>(match C6 ρ x,C6 ρ ix,T.G8 t with|some m,some i,some (.map kt e)=>Aj (Afd T kt e ok m i h) k|_,_,_=>none)
 | .mapUpdate t m ix x=>(match C6 ρ m,C6 ρ ix,C6 ρ x,T.G8 t with|some m,some i,some x,some (.map kt _)=>Aj (T2 T kt m i x h) k|_,_,_,_=>none)
 | .select cs false=>(match cs.toList with
  | [c]=>(match c.send with
   | some x=>(match C6 ρ c.chan,C6 ρ x,zeroOf T c.elem with|some c,some x,some _=>Aj (Akq c x h) k|_,_,_=>none)
   | none=>(match C6 ρ c.chan,zeroOf T c.elem with|some c,some zv=>Aj (Ajg zv c h) k|_,_=>none))
  | _=>none)
 | _=>none
def Awp(T:D1)(op:Op):Bool:=
 match op with
 | .move _ | .assign _ | .pick .. | .binOp .. | .unOp .not .. | .unOp .neg .. | .nilCheck _ | .fieldAddr .. | .indexAddr .. | .field .. | .convert .. | .extract .. | .load .. | .store .. | .alloc _ | .box .. | .call ..=>true
 | .index t x ix=>(match A5 x,A5 ix,T.G8 t with|some _,some _,some (.array ..)=>true|_,_,_=>false)
 | .build .. | .buildSlice .. | .makeFunc (.func _) .. | .sliceToArrayPointer .. | .slice .. | .makeSlice .. | .makeMap _ none | .makeChan .. | .lookup .. | .mapUpdate .. | .select _ false=>true
 | _=>false
end
theorem Ck(tm:Ag)(x:Operand):C6 (tmp tm) x=(A5 x).map fun e=>e tm:=by
 cases x with
 | tmp t=>show some (tmp tm t)=some (Arn (pathOf t) tm);rw[Yf]
 | const v=>show ofV v=Option.map _ (match ofV v with|some c=>some (Lf c)|none=>none);cases ofV v <;> rfl
 | global g=>rfl
 | func f=>rfl
theorem Aat(tm:Ag)(l:List Operand):Ad3 (tmp tm) l=(Ga l).map fun e=>e tm:=by
 induction l with
 | nil=>rfl
 | cons x r ih=>
  show (match C6 (tmp tm) x,Ad3 (tmp tm) r with|some e,some es=>some (e::es)|_,_=>none)=Option.map _ (match A5 x,Ga r with|some e,some es=>some (fun tm=>e tm::es tm)|_,_=>none)
  rw[ih,Ck]
  cases A5 x <;> cases Ga r <;> rfl
theorem Amo(tm:Ag)(l:List (Nat × Operand)):Aif (tmp tm) l=(Vv l).map fun e=>e tm:=by
 induction l with
 | nil=>rfl
 | cons x r ih=>
  show (match C6 (tmp tm) x.2,Aif (tmp tm) r with|some e,some es=>some ((x.1,e)::es)|_,_=>none)=Option.map _ (match A5 x.2,Vv r with|some e,some es=>some (fun tm=>(x.1,e tm)::es tm)|_,_=>none)
  rw[ih,Ck]
  cases A5 x.2 <;> cases Vv r <;> rfl
theorem Ayu(tm:Ag)(x:Option Operand):Am4 (tmp tm) x=(Afr x).map fun e=>e tm:=by
 cases x with
 | none=>rfl
 | some x=>
  show (match C6 (tmp tm) x with|some e=>some (some e)|none=>none)=Option.map _ (match A5 x with|some e=>some (fun tm=>some (e tm))|none=>none)
  rw[Ck];cases A5 x <;> rfl
theorem Ai8 {T:D1}{call round:Ac}{op:Op}(ok:Awp T op=true)(k:KF)(tm:Ag)(h:Aa):Hq T call round op k tm h []=Rx T call call round op (tmp tm) h fun v h=>k v tm h []:=by
 cases op with
 | move x=>simp only[Hq,Rx,Ck];cases A5 x <;> rfl
 | assign x=>simp only[Hq,Rx,Ck];cases A5 x <;> rfl
 | pick c a b=>simp only[Hq,Rx,Ck];cases A5 c <;> cases A5 a <;> cases A5 b <;> rfl
 | binOp op t x y sh=>
  simp only[Hq,Rx,Ck]
  cases A5 x <;> cases A5 y <;> try rfl
  simp only[Option.map_some]
  cases A0t op <;> rfl
 | unOp o t x=>
  cases o with
  | not=>simp only[Hq,Rx,Ck];cases A5 x <;> rfl
  | neg=>simp only[Hq,Rx,Ck];cases A5 x <;> first|rfl|exact Axr
  | _=>cases ok
 | nilCheck x=>simp only[Hq,Rx,Ck];cases A5 x <;> rfl
 | fieldAddr s x f=>
  simp only[Hq,Rx,Ck]
  cases A5 x with
  | none=>rfl
  | some e=>
   cases T.G8 s with
   | none=>rfl
   | some d=>
    cases d <;> try rfl
    rename_i fs
    simp only[Option.map_some]
    cases Agq fs.toList f with
    | none=>rfl
    | some fd=>
     simp only
     cases T.size fd.type with
     | none=>rfl
     | some n=>simp only;cases Nat.beq n 0 <;> rfl
 | indexAddr t x ix=>
  simp only[Hq,Rx,Ck]
  cases A5 x <;> cases A5 ix <;> try rfl
  simp only[Option.map_some]
  cases T.G8 t with
  | none=>rfl
  | some d=>
   cases d <;> try rfl
   ·rename_i n et;simp only;cases T.size et <;> rfl
   ·rename_i et;simp only;cases T.size et <;> first|rfl|exact Al5
 | index t x ix=>
  simp only[Awp]at ok
  simp only[Hq,Rx,Ck]
  generalize A5 x=ex at ok ⊢
  generalize A5 ix=ei at ok ⊢
  generalize T.G8 t=u at ok ⊢
  cases ex <;> try (cases ok;done)
  cases ei <;> try (cases ok;done)
  cases u <;> try (cases ok;done)
  rename_i d
  cases d <;> try (cases ok;done)
  rename_i n et
  simp only[Option.map_some]
  cases T.size et <;> cases T.agg et <;> rfl
 | field t x f=>
  simp only[Hq,Rx,Ck]
  cases A5 x with
  | none=>rfl
  | some e=>
   cases T.G8 t with
   | none=>rfl
   | some d=>
    cases d <;> try rfl
    rename_i fs
    simp only[Option.map_some]
    cases Agq fs.toList f with
    | none=>rfl
    | some fd=>
     simp only
     cases T.agg fd.type with
     | none=>rfl
     | some b=>cases b <;> simp only <;> first|rfl|(cases T.size fd.type <;> rfl)
 | convert s t x=>
  simp only[Hq,Rx,Ck]
  cases A5 x <;> cases T.G8 s <;> cases T.G8 t <;> try rfl
  rename_i d
  cases d <;> rfl
 | extract x ix=>simp only[Hq,Rx,Ck];cases A5 x <;> rfl
 | load t x=>
  simp only[Hq,Rx,Ck]
  cases A5 x with
  | none=>rfl
  | some e=>
   cases T.agg t with
   | none=>rfl
   | some b=>cases b <;> simp only[Option.map_some] <;> first|exact Amp|(cases T.size t <;> first|rfl|exact Al9)
 | store t a x=>simp only[Hq,Rx,Ck];cases A5 a <;> cases A5 x <;> cases T.size t <;> rfl
 | alloc t=>simp only[Hq,Rx];cases T.zero t <;> rfl
 | box t x=>simp only[Hq,Rx,Ck];cases A5 x <;> rfl
 | build t ps=>
  simp only[Hq,Rx,Amo]
  cases T.zero t <;> cases Vv ps.toList <;> cases T.G8 t <;> try rfl
  rename_i d
  cases d <;> try rfl
  ·rename_i n et;simp only[Option.map_some];cases T.size et <;> first|rfl|exact Aja _ _ _
  ·rename_i fs;simp only[Option.map_some];cases placesOf T fs.toList <;> first|rfl|exact Aja _ _ _
 | buildSlice t n ps=>
  simp only[Hq,Rx,Amo]
  cases T.G8 t with
  | none=>rfl
  | some d=>
   cases d <;> try rfl
   rename_i e
   cases Vv ps.toList <;> try rfl
   simp only[Option.map_some]
   cases T.size e <;> cases T.zero e <;> rfl
 | makeFunc f a b=>
  cases f <;> try (cases ok;done)
  simp only[Hq,Rx,Aat]
  cases Ga a.toList <;> cases Ga b.toList <;> rfl
 | sliceToArrayPointer t x=>
  simp only[Hq,Rx,Ck]
  cases A5 x <;> cases T.G8 t <;> try rfl
  rename_i d
  cases d <;> first|rfl|exact Au6 _
 | slice t x lo hi mx=>
  simp only[Hq,Rx,Ck,Ayu]
  cases A5 x <;> cases Afr lo <;> cases Afr hi <;> cases Afr mx <;> try rfl
  simp only[Option.map_some]
  rename_i e1 l1 h1 m1
  cases T.G8 t with
  | none=>rfl
  | some d=>
   cases d <;> try rfl
   ·rename_i et;simp only;cases T.size et <;> rfl
   ·rename_i n et
    simp only
    cases T.size et with
    | none=>rfl
    | some s=>exact Aun n s l1 h1 m1
 | makeSlice t l c=>
  simp only[Hq,Rx,Ck]
  cases A5 l <;> cases A5 c <;> cases T.G8 t <;> try rfl
  rename_i d
  cases d <;> try rfl
  rename_i e;simp only[Option.map_some];cases T.zero e <;> rfl
 | makeMap t n=>cases n <;> first|rfl|cases ok
 | makeChan t s=>
  simp only[Hq,Rx,Ck]
  cases A5 s <;> cases T.G8 t <;> try rfl
  rename_i d
  cases d <;> try rfl
  rename_i dr e;simp only[Option.map_some];cases T.size e <;> rfl
 | lookup t x ix b=>
  simp only[Hq,Rx,Ck]
  cases A5 x <;> cases A5 ix <;> cases T.G8 t <;> try rfl
  rename_i d
  cases d <;> rfl
 | mapUpdate t m ix x=>
  simp only[Hq,Rx,Ck]
  cases A5 m <;> cases A5 ix <;> cases A5 x <;> cases T.G8 t <;> try rfl
  rename_i d
  cases d <;> rfl
 | select cs b=>
  cases b <;> try (cases ok;done)
  simp only[Hq,Rx,Ck]
  generalize cs.toList=l
  match l with
  | []=>rfl
  | [c]=>
   simp only
   cases c.send with
   | none=>simp only;cases A5 c.chan <;> cases zeroOf T c.elem <;> rfl
   | some x=>simp only[Ck];cases A5 c.chan <;> cases A5 x <;> cases zeroOf T c.elem <;> rfl
  | _::_::_=>rfl
 | call c=>
  obtain⟨callee,args,ats⟩:=c
  cases callee with
  | value f=>
   cases f with
   | func g=>simp only[Hq,Rx,Aat];cases Ga args.toList <;> rfl
   | global g=>rfl
   | tmp t=>
    simp only[Hq,Rx,Aat]
    rw[Ck]
    generalize A5 _=ex
    cases ex <;> cases Ga args.toList <;> first|rfl|exact Ai4 _
   | const v=>
    simp only[Hq,Rx,Aat]
    rw[Ck]
    generalize A5 _=ex
    cases ex <;> cases Ga args.toList <;> first|rfl|exact Ai4 _
  | builtin b=>
   have gen:∀ b,b ≠ .append->b ≠ .len->Hq T call round (.call ⟨.builtin b,args,ats⟩) k tm h []=Rx T call call round (.call ⟨.builtin b,args,ats⟩) (tmp tm) h fun v h=>k v tm h []:=fun b h1 h2=>by
    cases b <;> first|exact absurd rfl h1|exact absurd rfl h2|(simp only[Hq,Rx,Aat];cases Ga args.toList <;> rfl)
   by_cases h1:b=.append
   ·subst h1
    simp only[Hq,Rx,Ck]
    generalize args.toList=l
    generalize ats.toList=r
    match l,r with
    | [],_=>rfl
    | [_],_=>rfl
    | _::_::_::_,_=>rfl
    | [s,x],[]=>rfl
    | [s,x],[_]=>rfl
    | [s,x],_::_::_::_=>rfl
    | [s,x],[t,u]=>
     simp only[Ck]
     cases A5 s <;> cases A5 x <;> try rfl
     simp only[Option.map_some]
     cases T.G8 u with
     | none=>rfl
     | some d=>
      cases d <;> try rfl
      cases T.G8 t with
      | none=>rfl
      | some d'=>
       cases d' <;> try rfl
       rename_i e
       simp only
       cases T.size e <;> cases T.zero e <;> rfl
   ·by_cases h2:b=.len
    ·subst h2
     simp only[Hq,Rx,Ck]
     generalize args.toList=l
     generalize hr:ats.toList=r
     match l,r,hr with
     | [],_,_=>rfl
     | _::_::_,_,_=>rfl
     | [x],[],_=>rfl
     | [x],_::_::_,_=>rfl
     | [x],[t],hr=>
      simp only[Ck]
      cases A5 x <;> try rfl
      simp only[Option.map_some]
      cases T.G8 t with
      | none=>rfl
      | some d=>cases d <;> rfl
    ·exact gen b h1 h2
  | _=>rfl
 | _=>cases ok
noncomputable section
abbrev Ve(n:Nat)(d:Option Tmp)(ρ:VS)(v:EV):VS:=match d with|none=>ρ|some d=>An (Nat.ble (Nat.succ d) n) (Avh ρ d v) ρ
abbrev Aq8(ops:List Oper)(ρ:VS)(g:Nat × Bool):Bool:=match Ad7 ops g.1 with
 | some o=>(match o.dst with|some d=>Au (ρ d) g.2|none=>false)
 | none=>false
abbrev Ao6(T:D1)(call callV round:Ac)(n:Nat)(ops:List Oper)(fin:CD)(l:List Oper):Mode->CD:=
 @List.rec Oper (fun _=>Mode->CD) (fun _=>fin) (fun o _ ih m=>@Option.rec (Nat × Bool) (fun _=>CD) (fun ρ h=>Rx T call callV round o.op ρ h fun v h=>ih none (Ve n o.dst ρ v) h)
  (fun g ρ h=>match L5 m g with
   | some true=>Rx T call callV round o.op ρ h fun v h=>ih (Db ops g true o.dst) (Ve n o.dst ρ v) h
   | some false=>ih (Db ops g false o.dst) (Ve n o.dst ρ (.tuple [])) h
   | none=>An (Aq8 ops ρ g) (Rx T call callV round o.op ρ h fun v h=>ih (Db ops g true o.dst) (Ve n o.dst ρ v) h) (ih (Db ops g false o.dst) (Ve n o.dst ρ (.tuple [])) h)) o.guard) l
abbrev Aqw(T:D1)(call callV round:Ac)(op:Op)(i b base:Nat)(s:DX)(ρ:VS)(h:Aa)(k:DX->EV->Aa->R):R:=
 match cls op with
 | .val=>Rx T call callV round op ρ h (k s)
 | .load=>(match op with | .load t x=>(match C6 ρ x with|some e=>Bm i b base e s fun s=>Rx T call callV round (.load t x) ρ h (k s)|none=>none)|_=>none)
 | .new=>Aax i h s fun s=>Rx T call callV round op ρ h (k s)
 | .Wq=>(match op with | .store t a x=>(match C6 ρ a with|some e=>Afl i b e s fun s=>Rx T call callV round (.store t a x) ρ h (k s)|none=>none)|_=>none)
 | .pur=>A5z h fun h0=>Rx T call callV round op ρ h0 fun v _=>k s v h
 | .Sl=>An (Po b s) (Rx T call callV round op ρ (Ei b s h) fun v h'=>G3 i b s h h' fun s h=>k s v h) none
abbrev Akf(T:D1)(call callV round:Ac)(n:Nat)(ops:List Oper)(bs:Tr Nat)(base:Nat)(fin:CD)(l:List Oper):Nat->Mode->DX->CD:=
 @List.rec Oper (fun _=>Nat->Mode->DX->CD) (fun _ _ _=>fin) (fun o _ ih i m s ρ h=>match bs.get i with
  | none=>none
  | some b=>@Option.rec (Nat × Bool) (fun _=>CD) (fun ρ h=>Aqw T call callV round o.op i b base s ρ h fun s v h=>ih (Nat.succ i) none s (Ve n o.dst ρ v) h)
   (fun g ρ h=>match L5 m g with
    | some true=>Aqw T call callV round o.op i b base s ρ h fun s v h=>ih (Nat.succ i) (Db ops g true o.dst) s (Ve n o.dst ρ v) h
    | some false=>ih (Nat.succ i) (Db ops g false o.dst) s (Ve n o.dst ρ (.tuple [])) h
    | none=>An (Aq8 ops ρ g) (Aqw T call callV round o.op i b base s ρ h fun s v h=>ih (Nat.succ i) (Db ops g true o.dst) s (Ve n o.dst ρ v) h) (ih (Nat.succ i) (Db ops g false o.dst) s (Ve n o.dst ρ (.tuple [])) h)) o.guard ρ h) l
abbrev Am5(T:D1)(call callV round:Ac)(n:Nat)(ops:List Oper)(fin:CD):CD:=fun ρ h=>
 An (Tw ops 0) (An (Rq ops (Gy ops 0 .nil) ops 0 []) (Gf h fun base s=>Akf T call callV round n ops (Gy ops 0 .nil) base fin ops 0 none s ρ h) none) none
abbrev Ah5:=List (Nat × CD)
abbrev A6q(env:Ah5)(id:Nat):CD:=@List.rec (Nat × CD) (fun _=>CD) (fun _ _=>none) (fun p _ ih=>@Prod.rec Nat CD (fun _=>CD) (fun j k=>An (Nat.beq j id) k ih) p) env
abbrev G9(c:CD->CD)(fuel:Nat):CD:=@Nat.rec (fun _=>CD) (fun _ _=>none) (fun _ ih=>c ih) fuel
abbrev F7(T:D1)(call callV round:Ac)(fuel n:Nat)(ret:CD)(c:Code):Ah5->CD->CD:=
 @Code.rec (fun _=>Ah5->CD->CD) (fun _ k=>k)
  (fun _ ops dr _ k=>An dr (An (Rg T ops.toList) (Ao6 T call callV round n ops.toList k ops.toList none) (Am5 T call callV round n ops.toList k)) (Ao6 T call callV round n ops.toList k ops.toList none))
  (fun _ _ a b env k=>a env (b env k))
  (fun c _ _ a b env k ρ h=>match C6 ρ c with|some e=>Et e (a env k ρ h) (b env k ρ h)|none=>none)
  (fun id _ c env k=>c ((id,k)::env) k)
  (fun _ c env _=>G9 (fun ih=>c env ih) fuel)
  (fun _ _ _ _ _ _ _ _ _ _=>none)
  (fun id env _=>A6q env id) (fun _ _ _ _ _ _=>none) (fun _ _ k=>k) (fun _ _ _ _ _=>none) (fun _ _=>ret) (fun _ _ _ _ _=>none) c
def Amt(T:D1)(l:List Oper):Bool:=@List.rec Oper (fun _=>Bool) true (fun o _ ih=>An (Awp T o.op) ih false) l
def okC(T:D1)(c:Code):Bool:=@Code.rec (fun _=>Bool) true (fun _ ops _=>Amt T ops.toList) (fun _ _ a b=>An a b false) (fun _ _ _ a b=>An a b false) (fun _ _ a=>a) (fun _ a=>a)
 (fun _ _ _ _ _ _=>false) (fun _=>true) (fun _ a=>a) (fun _=>true) (fun _=>true) true (fun _=>true) c
abbrev rvD(ρ:VS):ResultVar->RV
 | .tmp t=>.v (ρ t)
 | .cell a t=>.c (ρ a) t
abbrev Azb(T:D1)(res:List ResultVar):CD:=fun ρ h=>match res with
 | [.tmp t]=>some (ρ t,h)
 | []=>some (.tuple [],h)
 | [.tmp s,.tmp t]=>some (.tuple [ρ s,ρ t],h)
 | res=>Jh T (res.map (rvD ρ)) h
abbrev Aiv(l:List EV):Nat->VS->VS:=@List.rec EV (fun _=>Nat->VS->VS) (fun _ ρ=>ρ) (fun v _ ih i ρ=>ih (Nat.succ i) (Avh ρ i v)) l
abbrev A20(T:D1)(call callV round:Ac)(fuel f:Nat)(args:List EV)(h:Aa):R:=
 match T.fn f with
 | some { ntmps:=n,body:=some c,results:=res,.. }=>An (Nat.ble (Jz args) n) (F7 T call callV round fuel n (Azb T res.toList) c [] (Azb T res.toList) (Aiv args 0 fun _=>.tuple []) h) none
 | _=>none
def okF(T:D1)(f:Nat):Bool:=match T.fn f with|some { body:=some c,.. }=>okC T c|_=>false
end
def Eqv(k:CF)(k':CD):Prop:=∀ tm h,k tm h []=k' (tmp tm) h
theorem Atq(tm:Ag)(d:Nat)(v:EV):tmp (tm.put d (some v))=Avh (tmp tm) d v:=funext fun i=>by
 rw[Kl];show _=An (Nat.beq d i) v (tmp tm i)
 by_cases e:d=i
 ·subst e;rw[if_pos rfl,Nat.beq_refl,Ak]
 ·rw[if_neg e,beq_false e,Ax]
theorem Agx {n:Nat}{d:Option Tmp}{k:CF}{k':CD}(hk:Eqv k k')(v:EV)(tm:Ag)(h:Aa):F6 n d k v tm h []=k' (Ve n d (tmp tm) v) h:=by
 cases d with
 | none=>exact hk tm h
 | some d=>
  show An (Nat.ble (Nat.succ d) n) (fun(v:EV) tm h ds=>k (H8 (pathOf d) (some v) tm) h ds) (fun _=>k) v tm h []=k' (An (Nat.ble (Nat.succ d) n) (Avh (tmp tm) d v) (tmp tm)) h
  cases Nat.ble (Nat.succ d) n with
  | true=>show k (H8 (pathOf d) (some v) tm) h []=k' (Avh (tmp tm) d v) h;rw[hk,Afv,Atq]
  | false=>exact hk tm h
theorem Aup(ops:List Oper)(g:Nat × Bool)(tm:Ag):Tq ops g tm=Aq8 ops (tmp tm) g:=by
 unfold Tq
 show _=(match Ad7 ops g.1 with|some o=>(match o.dst with|some d=>Au (tmp tm d) g.2|none=>false)|none=>false)
 cases Ad7 ops g.1 with
 | none=>rfl
 | some o=>
  simp only
  cases o.dst with
  | none=>rfl
  | some d=>
   simp only
   exact Bo (k:=C9 (pathOf d)) rfl g.2 tm
theorem As6 {T:D1}{call round:Ac}{n:Nat}{ops:List Oper}{fin:CF}{fin':CD}(hf:Eqv fin fin'):∀ (l:List Oper) (m:Mode),Amt T l=true->Eqv (Uh T call round n ops fin l m) (Ao6 T call call round n ops fin' l m)
 | [],m,_=>hf
 | o::l,m,ok=>by
  obtain⟨ok1,ok2⟩:=Oh (show An (Awp T o.op) (Amt T l) false=true from ok)
  have ih:=fun m=>As6 (call:=call) (round:=round) (n:=n) (ops:=ops) hf l m ok2
  have one:∀ m tm h,Hq T call round o.op (F6 n o.dst (Uh T call round n ops fin l m)) tm h []=Rx T call call round o.op (tmp tm) h fun v h=>Ao6 T call call round n ops fin' l m (Ve n o.dst (tmp tm) v) h:=fun m tm h=>by
   rw[Ai8 ok1];congr 1;funext v h;exact Agx (ih m) v tm h
  intro tm h
  obtain⟨dst,op,ty,ps,af,g⟩:=o
  cases g with
  | none=>exact one none tm h
  | some g=>
   show Ac2 (L5 m g) (Hq T call round op (F6 n dst (Uh T call round n ops fin l (Db ops g true dst)))) (F6 n dst (Uh T call round n ops fin l (Db ops g false dst)) (.tuple []))
    (Aai (Tq ops g) (Hq T call round op (F6 n dst (Uh T call round n ops fin l (Db ops g true dst)))) (F6 n dst (Uh T call round n ops fin l (Db ops g false dst)))) tm h [] =
    (match L5 m g with
     | some true=>Rx T call call round op (tmp tm) h fun v h=>Ao6 T call call round n ops fin' l (Db ops g true dst) (Ve n dst (tmp tm) v) h
     | some false=>Ao6 T call call round n ops fin' l (Db ops g false dst) (Ve n dst (tmp tm) (.tuple [])) h
     | none=>An (Aq8 ops (tmp tm) g) (Rx T call call round op (tmp tm) h fun v h=>Ao6 T call call round n ops fin' l (Db ops g true dst) (Ve n dst (tmp tm) v) h) (Ao6 T call call round n ops fin' l (Db ops g false dst) (Ve n dst (tmp tm) (.tuple [])) h))
   cases L5 m g with
   | none=>
    show An (Tq ops g tm) (Hq T call round op _ tm h []) (F6 n dst _ (.tuple []) tm h [])=_
    rw[Aup,one,Agx (ih _)]
   | some b=>cases b with
    | true=>exact one _ tm h
    | false=>exact Agx (ih _) _ tm h
theorem A6i {T:D1}{call round:Ac}{op:Op}(ok:Awp T op=true){i b base:Nat}{s:DX}{k:DX->KF}{tm:Ag}{h:Aa}{k':DX->EV->Aa->R}(hk:∀ s v h,k s v tm h []=k' s v h):
 dOp T call round op i b base s k tm h []=Aqw T call call round op i b base s (tmp tm) h k':=by
 have e:∀ s (_:Aa),(fun(v:EV) (h:Aa)=>k s v tm h [])=k' s:=fun s _=>funext fun v=>funext fun h=>hk s v h
 unfold dOp Aqw
 cases hc:cls op with
 | val=>simp only;rw[Ai8 ok,e s h]
 | new=>simp only;show Hq T call round op (k _) tm h []=_;rw[Ai8 ok,e _ h];rfl
 | load=>
  obtain⟨t,x,rfl⟩:=Aj9 hc
  simp only[Ck]
  cases A5 x with
  | none=>rfl
  | some ex=>
   show Jj (fun q _=>An (Aaw b base q s) (Hq T call round (.load t x) (k (s.ld i q)) tm h []) none) (ex tm)=Jj (fun q _=>An (Aaw b base q s) (Rx T call call round (.load t x) (tmp tm) h (k' (s.ld i q))) none) (ex tm)
   congr 1;funext q o;rw[Ai8 ok,e _ h]
 | Wq=>
  cases op <;> try rfl
  rename_i t a x
  simp only[Ck]
  cases A5 a with
  | none=>rfl
  | some ea=>
   show Jj (fun q _=>An (Ag3 b q s) (Hq T call round (.store t a x) (k (s.Wq i q)) tm h []) none) (ea tm)=Jj (fun q _=>An (Ag3 b q s) (Rx T call call round (.store t a x) (tmp tm) h (k' (s.Wq i q))) none) (ea tm)
   congr 1;funext q o;rw[Ai8 ok,e _ h]
 | pur=>
  show Hq T call round op (fun v tm _ ds=>k s v tm h ds) tm ⟨.nil,h.next,h.next⟩ []=Rx T call call round op (tmp tm) ⟨.nil,h.next,h.next⟩ fun v _=>k' s v h
  rw[Ai8 ok];congr 1;funext v h';exact hk s v h
 | Sl=>
  show An (Po b s) (Hq T call round op (fun v tm h' ds=>G3 i b s h h' (fun s h=>k s v tm h ds)) tm (Ei b s h) []) none=An (Po b s) (Rx T call call round op (tmp tm) (Ei b s h) fun v h'=>G3 i b s h h' fun s h=>k' s v h) none
  rw[Ai8 ok];congr 2;funext v h';congr 1;funext s h;exact hk s v h
theorem Aud {T:D1}{call round:Ac}{n:Nat}{ops:List Oper}{bs:Tr Nat}{base:Nat}{fin:CF}{fin':CD}(hf:Eqv fin fin'):∀ (l:List Oper) (i:Nat) (m:Mode) (s:DX),Amt T l=true ->
 Eqv (Im T call round n ops bs base fin l i m s) (Akf T call call round n ops bs base fin' l i m s)
 | [],i,m,s,_=>hf
 | o::l,i,m,s,ok=>by
  obtain⟨ok1,ok2⟩:=Oh (show An (Awp T o.op) (Amt T l) false=true from ok)
  have ih:=fun i m s=>Aud (call:=call) (round:=round) (n:=n) (ops:=ops) (bs:=bs) (base:=base) hf l i m s ok2
  have one:∀ b m tm h,dOp T call round o.op i b base s (fun s=>F6 n o.dst (Im T call round n ops bs base fin l (Nat.succ i) m s)) tm h [] =
   Aqw T call call round o.op i b base s (tmp tm) h fun s v h=>Akf T call call round n ops bs base fin' l (Nat.succ i) m s (Ve n o.dst (tmp tm) v) h:=fun b m tm h=>
   A6i ok1 fun s v h=>Agx (ih _ m s) v tm h
  intro tm h
  obtain⟨dst,op,ty,ps,af,g⟩:=o
  show Azx (bs.get i) _ tm h []=(match bs.get i with|none=>none|some b=>_)
  cases bs.get i with
  | none=>rfl
  | some b=>
   cases g with
   | none=>exact one b none tm h
   | some g=>
    show Ac2 (L5 m g) (dOp T call round op i b base s fun s=>F6 n dst (Im T call round n ops bs base fin l (Nat.succ i) (Db ops g true dst) s)) (F6 n dst (Im T call round n ops bs base fin l (Nat.succ i) (Db ops g false dst) s) (.tuple []))
     (Aai (Tq ops g) (dOp T call round op i b base s fun s=>F6 n dst (Im T call round n ops bs base fin l (Nat.succ i) (Db ops g true dst) s)) (F6 n dst (Im T call round n ops bs base fin l (Nat.succ i) (Db ops g false dst) s))) tm h [] =
     (match L5 m g with
      | some true=>Aqw T call call round op i b base s (tmp tm) h fun s v h=>Akf T call call round n ops bs base fin' l (Nat.succ i) (Db ops g true dst) s (Ve n dst (tmp tm) v) h
      | some false=>Akf T call call round n ops bs base fin' l (Nat.succ i) (Db ops g false dst) s (Ve n dst (tmp tm) (.tuple [])) h
      | none=>An (Aq8 ops (tmp tm) g) (Aqw T call call round op i b base s (tmp tm) h fun s v h=>Akf T call call round n ops bs base fin' l (Nat.succ i) (Db ops g true dst) s (Ve n dst (tmp tm) v) h) (Akf T call call round n ops bs base fin' l (Nat.succ i) (Db ops g false dst) s (Ve n dst (tmp tm) (.tuple [])) h))
    cases L5 m g with
    | none=>
     show An (Tq ops g tm) (dOp T call round op i b base s _ tm h []) (F6 n dst _ (.tuple []) tm h [])=_
     rw[Aup,one,Agx (ih _ _ _)]
    | some b'=>cases b' with
     | true=>exact one b _ tm h
     | false=>exact Agx (ih _ _ _) _ tm h
theorem Yc {T:D1}{call round:Ac}{fuel fn n:Nat}{ret:CF}{ret':CD}(hr:Eqv ret ret'):∀ (c:Code) (env:Env) (env':Ah5) (k:CF) (k':CD),okC T c=true->(∀ id,Eqv (Alp (fun _=>C3) env id) (A6q env' id))->Eqv k k' ->
 Eqv (Mg T call round fuel fn n none (fun _=>C3) ret c env k) (F7 T call call round fuel n ret' c env' k')
 | .skip,env,env',k,k',_,he,hk=>hk
 | .region id ops dr,env,env',k,k',ok,he,hk=>by
  have ok:Amt T ops.toList=true:=ok
  cases dr with
  | false=>exact As6 hk ops.toList none ok
  | true=>
   show Eqv (An (Rg T ops.toList) (Uh T call round n ops.toList k ops.toList none) (Aiw T call round n ops.toList k)) (An (Rg T ops.toList) (Ao6 T call call round n ops.toList k' ops.toList none) (Am5 T call call round n ops.toList k'))
   cases Rg T ops.toList with
   | true=>exact As6 hk ops.toList none ok
   | false=>
    show Eqv (Aiw T call round n ops.toList k) (Am5 T call call round n ops.toList k')
    unfold Aiw Am5
    intro tm h
    cases Tw ops.toList 0 <;> try rfl
    cases Rq ops.toList (Gy ops.toList 0 .nil) ops.toList 0 [] <;> try rfl
    exact Aud hk ops.toList 0 none _ ok tm h
 | .seq a b,env,env',k,k',ok,he,hk=>by
  obtain⟨oa,ob⟩:=Oh (show An (okC T a) (okC T b) false=true from ok)
  exact Yc hr a env env' _ _ oa he (Yc hr b env env' k k' ob he hk)
 | .cond c a b,env,env',k,k',ok,he,hk=>by
  obtain⟨oa,ob⟩:=Oh (show An (okC T a) (okC T b) false=true from ok)
  have ha:=Yc (call:=call) (round:=round) (fuel:=fuel) (fn:=fn) (n:=n) hr a env env' _ _ oa he hk
  have hb:=Yc (call:=call) (round:=round) (fuel:=fuel) (fn:=fn) (n:=n) hr b env env' _ _ ob he hk
  intro tm h
  show (match A5 c with|some e=>Aer e _ _|none=>C3) tm h []=(match C6 (tmp tm) c with|some e=>Et e _ _|none=>none)
  rw[Ck]
  cases A5 c with
  | none=>rfl
  | some e=>
   show onB (Mg T call round fuel fn n none (fun _=>C3) ret a env k tm h []) (Mg T call round fuel fn n none (fun _=>C3) ret b env k tm h []) (e tm)=onB _ _ (e tm)
   rw[ha tm h,hb tm h]
 | .block id c,env,env',k,k',ok,he,hk=>by
  refine Yc hr c ((id,k)::env) ((id,k')::env') k k' ok (fun j=>?_) hk
  show Eqv (An (Nat.beq id j) k _) (An (Nat.beq id j) k' _)
  cases Nat.beq id j with
  | true=>exact hk
  | false=>exact he j
 | .loop c,env,env',k,k',ok,he,hk=>by
  show Eqv (Ahv (fun ih=>Mg T call round fuel fn n none (fun _=>C3) ret c env ih) fuel) (G9 (fun ih=>F7 T call call round fuel n ret' c env' ih) fuel)
  have:∀ m,Eqv (Ahv (fun ih=>Mg T call round fuel fn n none (fun _=>C3) ret c env ih) m) (G9 (fun ih=>F7 T call call round fuel n ret' c env' ih) m):=fun m=>by
   induction m with
   | zero=>exact fun _ _=>rfl
   | succ m ih=>exact Yc hr c env env' _ _ ok he ih
  exact this fuel
 | .rangeFunc ..,_,_,_,_,ok,_,_=>by cases ok
 | .exit id,env,env',k,k',_,he,hk=>he id
 | .scope _,_,_,_,_,_,_,_=>fun _ _=>rfl
 | .label _,_,_,_,_,_,_,hk=>hk
 | .goto _,_,_,_,_,_,_,_=>fun _ _=>rfl
 | .ret,_,_,_,_,_,_,_=>hr
 | .refuse _,_,_,_,_,_,_,_=>fun _ _=>rfl
theorem Az5(T:D1)(res:List ResultVar):Eqv (Agw T res) (Azb T res):=fun tm h=>by
 show Agh T res tm h=_
 have gen:Agh T res tm h=Jh T (res.map (rvD (tmp tm))) h:=by
  rw[A0s]
  have:Ae7 tm=rvD (tmp tm):=funext fun x=>by cases x <;> rfl
  rw[this]
 unfold Azb
 split
 ·simp only[Agh,Yf]
 ·rfl
 ·simp only[Agh,Yf]
 ·exact gen
theorem Auc:∀ (l:List EV) (i:Nat) (tm:Ag),tmp (Rc l i tm)=Aiv l i (tmp tm)
 | [],_,_=>rfl
 | v::r,i,tm=>by
  show tmp (Rc r (Nat.succ i) (H8 (pathOf i) (some v) tm))=Aiv r (Nat.succ i) (Avh (tmp tm) i v)
  rw[Auc r,Afv,Atq]
theorem A2y {T:D1}{call round:Ac}{fuel f:Nat}(ok:okF T f=true)(args:List EV)(h:Aa):Ab5 T call round fuel f args h=A20 T call call round fuel f args h:=by
 unfold okF at ok
 unfold Ab5 A20
 cases hf:T.fn f with
 | none=>rfl
 | some fn=>
  rw[hf]at ok
  obtain⟨name,origin,targs,params,rts,nfree,n,results,body,nr,ours,file,el,ln,met,tn⟩:=fn
  cases body with
  | none=>rfl
  | some c=>
   simp only at ok ⊢
   show An (Nat.ble (Jz args) n) (Mg T call round fuel f n none (fun _=>C3) (Agw T results.toList) c [] (Agw T results.toList) (Rc args 0 .nil) h []) none=_
   cases Nat.ble (Jz args) n with
   | false=>rfl
   | true=>
    show Mg T call round fuel f n none (fun _=>C3) (Agw T results.toList) c [] (Agw T results.toList) (Rc args 0 .nil) h []=_
    rw[Yc (Az5 T _) c [] [] _ _ ok (fun _ _ _=>rfl) (Az5 T _),Auc]
    rfl
end Go.Ev

namespace Go.Ev
noncomputable section
inductive Hk where
 | no
 | here (X:CD)
 | two (a b:Hk)
abbrev Hk.l(H:Hk):Hk:=match H with | .two a _=>a|_=>.no
abbrev Hk.r(H:Hk):Hk:=match H with | .two _ b=>b|_=>.no
section
variable (T:D1)(call callV round:Ac)(fuel n:Nat)(ret:CD)
abbrev Kw(H:Hk):Code->Ah5->CD->CD:=
 @Hk.rec (fun _=>Code->Ah5->CD->CD) (fun c env k=>F7 T call callV round fuel n ret c env k) (fun X _ _ _=>X)
  (fun _ _ a b c env k=>match c with
   | .seq x y=>a x env (b y env k)
   | .cond v x y=>fun ρ h=>match C6 ρ v with|some e=>Et e (a x env k ρ h) (b y env k ρ h)|none=>none
   | .block id x=>a x ((id,k)::env) k
   | c=>F7 T call callV round fuel n ret c env k) H
abbrev atH(p:List Bool):Hk->Code->Ah5->CD->CD:=
 @List.rec Bool (fun _=>Hk->Code->Ah5->CD->CD) (fun _ c env k=>F7 T call callV round fuel n ret c env k)
  (fun s _ ih H c env k=>match c with
   | .seq x y=>An s (ih H.r y env k) (ih H.l x env (Kw T call callV round fuel n ret H.r y env k))
   | .cond _ x y=>An s (ih H.r y env k) (ih H.l x env k)
   | .block id x=>ih H.l x ((id,k)::env) k
   | c=>F7 T call callV round fuel n ret c env k) p
end
abbrev Aql(p:List Bool)(X:CD):Hk->Hk:=
 @List.rec Bool (fun _=>Hk->Hk) (fun _=>.here X) (fun s _ ih H=>An s (.two H.l (ih H.r)) (.two (ih H.l) H.r)) p
def Aj4(p:List Bool):Hk->Code->Bool:=
 @List.rec Bool (fun _=>Hk->Code->Bool) (fun H _=>match H with | .no=>true|_=>false)
  (fun s _ ih H c=>match H with
   | .here _=>false
   | H=>match c with
    | .seq x y=>An s (ih H.r y) (ih H.l x)
    | .cond _ x y=>An s (ih H.r y) (ih H.l x)
    | .block _ x=>An s false (ih H.l x)
    | _=>false) p
def A7b(p:List Bool):Code->Code:=
 @List.rec Bool (fun _=>Code->Code) (fun c=>c) (fun s _ ih c=>match c with
  | .seq x y=>An s (ih y) (ih x)
  | .cond _ x y=>An s (ih y) (ih x)
  | .block _ x=>ih x
  | .loop x=>ih x
  | c=>c) p
abbrev Agv(T:D1)(g:Nat):Code:=match T.fn g with|some { body:=some c,.. }=>c|_=>.skip
abbrev nOf(T:D1)(g:Nat):Nat:=match T.fn g with|some f=>f.ntmps|_=>0
abbrev E1(T:D1)(g:Nat):CD:=match T.fn g with|some f=>Azb T f.results.toList|_=>fun _ _=>none
abbrev u0:VS:=fun _=>.tuple []
abbrev Pt(T:D1)(g:Nat)(p:List Bool):Code:=match A7b p (Agv T g) with | .loop c=>c|c=>c
end
section
variable {T:D1}{call callV round:Ac}{fuel n:Nat}{ret:CD}
theorem Awr(H:Hk)(hn:∀ X,H ≠ .here X)(c:Code)(env:Ah5)(k:CD):Kw T call callV round fuel n ret H c env k=Kw T call callV round fuel n ret (.two H.l H.r) c env k:=by
 cases H with
 | no=>cases c <;> rfl
 | here X=>exact(hn X rfl).elim
 | two a b=>rfl
theorem S9(X:CD):∀ (p:List Bool) (H:Hk) (c:Code) (env:Ah5) (k:CD),Aj4 p H c=true->atH T call callV round fuel n ret p H c env k=X->Kw T call callV round fuel n ret H c env k=Kw T call callV round fuel n ret (Aql p X H) c env k
 | [],H,c,env,k,hf,e=>by
  cases H with
  | no=>exact e
  | here _=>cases hf
  | two _ _=>cases hf
 | s::p,H,c,env,k,hf,e=>by
  have hn:∀ Y,H ≠ .here Y:=fun Y y=>by subst y;cases hf
  have hs:Aql (s::p) X H=An s (.two H.l (Aql p X H.r)) (.two (Aql p X H.l) H.r):=rfl
  rw[Awr H hn,hs]
  have hc:∃ x y id v,c=.seq x y\/c=.cond v x y\/c=.block id x:=by
   cases H with
   | here Y=>exact(hn Y rfl).elim
   | no=>cases c <;> first|exact⟨_,_,0,default,.inl rfl⟩|exact⟨_,_,0,_,.inr (.inl rfl)⟩|exact⟨_,.skip,_,default,.inr (.inr rfl)⟩|cases hf
   | two a b=>cases c <;> first|exact⟨_,_,0,default,.inl rfl⟩|exact⟨_,_,0,_,.inr (.inl rfl)⟩|exact⟨_,.skip,_,default,.inr (.inr rfl)⟩|cases hf
  obtain⟨x,y,id,v,rfl|rfl|rfl⟩:=hc
  ·have hf':An s (Aj4 p H.r y) (Aj4 p H.l x)=true:=by cases H <;> first|exact hf|exact(hn _ rfl).elim
   have e':An s (atH T call callV round fuel n ret p H.r y env k) (atH T call callV round fuel n ret p H.l x env (Kw T call callV round fuel n ret H.r y env k))=X:=e
   cases s with
   | true=>show Kw T call callV round fuel n ret H.l x env (Kw T call callV round fuel n ret H.r y env k)=Kw T call callV round fuel n ret H.l x env (Kw T call callV round fuel n ret (Aql p X H.r) y env k);rw[S9 X p H.r y env k hf' e']
   | false=>exact S9 X p H.l x env _ hf' e'
  ·have hf':An s (Aj4 p H.r y) (Aj4 p H.l x)=true:=by cases H <;> first|exact hf|exact(hn _ rfl).elim
   have e':An s (atH T call callV round fuel n ret p H.r y env k) (atH T call callV round fuel n ret p H.l x env k)=X:=e
   cases s with
   | true=>
    show (fun ρ h=>match C6 ρ v with|some e=>Et e (Kw T call callV round fuel n ret H.l x env k ρ h) (Kw T call callV round fuel n ret H.r y env k ρ h)|none=>none)=fun ρ h=>match C6 ρ v with|some e=>Et e (Kw T call callV round fuel n ret H.l x env k ρ h) (Kw T call callV round fuel n ret (Aql p X H.r) y env k ρ h)|none=>none
    rw[S9 X p H.r y env k hf' e']
   | false=>
    show (fun ρ h=>match C6 ρ v with|some e=>Et e (Kw T call callV round fuel n ret H.l x env k ρ h) (Kw T call callV round fuel n ret H.r y env k ρ h)|none=>none)=fun ρ h=>match C6 ρ v with|some e=>Et e (Kw T call callV round fuel n ret (Aql p X H.l) x env k ρ h) (Kw T call callV round fuel n ret H.r y env k ρ h)|none=>none
    rw[S9 X p H.l x env k hf' e']
  ·have hf':An s false (Aj4 p H.l x)=true:=by cases H <;> first|exact hf|exact(hn _ rfl).elim
   cases s with
   | true=>cases hf'
   | false=>exact S9 X p H.l x _ k hf' e
theorem cut(p:List Bool){H:Hk}{c:Code}{env:Ah5}{k X Y Z:CD}(e:Y=X)(hf:Aj4 p H c=true)(ha:atH T call callV round fuel n ret p H c env k=Y)(rest:Kw T call callV round fuel n ret (Aql p X H) c env k=Z):
 Kw T call callV round fuel n ret H c env k=Z:=(S9 X p H c env k hf (ha.trans e)).trans rest
theorem Cw {B:CD->CD}{E:Nat->CD}(h0:E 0=fun _ _=>none)(hs:∀ m,B (E m)=E (m+1)):∀ m,G9 B m=E m
 | 0=>h0.symm
 | m+1=>by
  show B (G9 B m)=_
  rw[Cw h0 hs m,hs]
theorem A4q {c:Code}{env:Ah5}{E Bd:Nat->CD}(h0:E 0=fun _ _=>none)(h1:∀ m,Kw T call callV round fuel n ret .no c env (E m)=Bd m)(h2:∀ m,Bd m=E (m+1))(m:Nat):G9 (fun ih=>F7 T call callV round fuel n ret c env ih) m=E m:=
 Cw (B:=fun ih=>F7 T call callV round fuel n ret c env ih) h0 (fun m=>(h1 m).trans (h2 m)) m
theorem P6 {A B:CD}(e:∀ ρ h,A ρ h=B ρ h):A=B:=funext fun ρ=>funext fun h=>e ρ h
end
noncomputable section
abbrev w0(g:Nat)(f:Aa->R)(c:Ac):Ac:=fun g' xs h=>An (Nat.beq g g') (@List.rec EV (fun _=>R) (f h) (fun _ _ _=>c g' xs h) xs) (c g' xs h)
abbrev w1(g:Nat)(f:EV->Aa->R)(c:Ac):Ac:=fun g' xs h=>An (Nat.beq g g') (match xs with | [a]=>f a h|xs=>c g' xs h) (c g' xs h)
abbrev w2(g:Nat)(f:EV->EV->Aa->R)(c:Ac):Ac:=fun g' xs h=>An (Nat.beq g g') (match xs with | [a,b]=>f a b h|xs=>c g' xs h) (c g' xs h)
abbrev w3(g:Nat)(f:EV->EV->EV->Aa->R)(c:Ac):Ac:=fun g' xs h=>An (Nat.beq g g') (match xs with | [a,b,d]=>f a b d h|xs=>c g' xs h) (c g' xs h)
abbrev w4(g:Nat)(f:EV->EV->EV->EV->Aa->R)(c:Ac):Ac:=fun g' xs h=>An (Nat.beq g g') (match xs with | [a,b,d,e]=>f a b d e h|xs=>c g' xs h) (c g' xs h)
abbrev w5(g:Nat)(f:EV->EV->EV->EV->EV->Aa->R)(c:Ac):Ac:=fun g' xs h=>An (Nat.beq g g') (match xs with | [a,b,d,e,i]=>f a b d e i h|xs=>c g' xs h) (c g' xs h)
end
section
variable {c x:Ac}{g:Nat}
theorem W0 {f:Aa->R}(e:∀ h,c g [] h=f h)(y:c=x):c=w0 g f x:=by
 subst y;funext g' xs h;show _=An (Nat.beq g g') _ _
 cases hb:Nat.beq g g' with
 | false=>rfl
 | true=>have:=Nat.eq_of_beq_eq_true hb;subst this;cases xs <;> first|exact e h|rfl
theorem W1 {f:EV->Aa->R}(e:∀ a h,c g [a] h=f a h)(y:c=x):c=w1 g f x:=by
 subst y;funext g' xs h;show _=An (Nat.beq g g') _ _
 cases hb:Nat.beq g g' with
 | false=>rfl
 | true=>have:=Nat.eq_of_beq_eq_true hb;subst this;show c g xs h=(match xs with | [a]=>f a h|xs=>c g xs h);split <;> first|exact e _ h|rfl
theorem W2 {f:EV->EV->Aa->R}(e:∀ a b h,c g [a,b] h=f a b h)(y:c=x):c=w2 g f x:=by
 subst y;funext g' xs h;show _=An (Nat.beq g g') _ _
 cases hb:Nat.beq g g' with
 | false=>rfl
 | true=>have:=Nat.eq_of_beq_eq_true hb;subst this;show c g xs h=(match xs with | [a,b]=>f a b h|xs=>c g xs h);split <;> first|exact e _ _ h|rfl
theorem W3 {f:EV->EV->EV->Aa->R}(e:∀ a b d h,c g [a,b,d] h=f a b d h)(y:c=x):c=w3 g f x:=by
 subst y;funext g' xs h;show _=An (Nat.beq g g') _ _
 cases hb:Nat.beq g g' with
 | false=>rfl
 | true=>have:=Nat.eq_of_beq_eq_true hb;subst this;show c g xs h=(match xs with | [a,b,d]=>f a b d h|xs=>c g xs h);split <;> first|exact e _ _ _ h|rfl
theorem W4 {f:EV->EV->EV->EV->Aa->R}(e:∀ a b d i h,c g [a,b,d,i] h=f a b d i h)(y:c=x):c=w4 g f x:=by
 subst y;funext g' xs h;show _=An (Nat.beq g g') _ _
 cases hb:Nat.beq g g' with
 | false=>rfl
 | true=>have:=Nat.eq_of_beq_eq_true hb;subst this;show c g xs h=(match xs with | [a,b,d,e]=>f a b d e h|xs=>c g xs h);split <;> first|exact e _ _ _ _ h|rfl
end
noncomputable def A3g(T:D1)(g n:Nat):Bool:=An (okF T g) (Nat.ble n (nOf T g)) false
theorem Awz {T:D1}{c r:Ac}{K g:Nat}{args:List EV}(hk:A3g T g (Jz args)=true)(h:Aa):Ab5 T c r K g args h=Kw T c c r K (nOf T g) (E1 T g) .no (Agv T g) [] (E1 T g) (Aiv args 0 u0) h:=by
 obtain⟨h1,h2⟩:=Oh hk
 rw[A2y h1]
 unfold okF at h1
 unfold nOf at h2
 unfold A20 nOf E1 Agv
 cases hf:T.fn g with
 | none=>rw[hf]at h1;try cases h1
 | some fn=>
  rw[hf]at h1 h2
  obtain⟨name,origin,targs,params,rts,nfree,n,results,body,nr,ours,file,el,ln,met,tn⟩:=fn
  cases body with
  | none=>cases h1
  | some c0=>
   show An (Nat.ble (Jz args) n) _ none=_
   rw[show Nat.ble (Jz args) n=true from h2]
   rfl
end Go.Ev
