/- Direct style: operations upon values. -/
import Derived.Test.YtpkcfamminlmaaaGreatFun
set_option linter.unusedVariables false
set_option linter.unusedSimpArgs false
set_option linter.unusedSectionVars false
namespace Go.Ev
open Go.Proofs
set_option maxRecDepth 100000
noncomputable section
def pickE (c a b : EV) (k : EV → R) : R := onB (k a) (k b) c
def binE (f : EV → EV → Option EV) (a b : EV) (k : EV → R) : R := oB k (f a b)
def notE (v : EV) (k : EV → R) : R := onB (k (.bool false)) (k (.bool true)) v
def negE (v : EV) (k : EV → R) : R := match v with | .int c n => k (.int c (wrapF c (Int.sub 0 n))) | _ => none
def nilE (v : EV) (k : EV → R) : R := onPtr (fun i o => k (.ptr i o)) v
def offE (c : Nat) (v : EV) (k : EV → R) : R := onPtr (fun i o => k (.ptr i (Nat.add o c))) v
def ixAE (len s : Nat) (v ix : EV) (k : EV → R) : R := onIx (fun j => onPtr (fun i off => cnd (Nat.ble (Nat.succ j) len) (k (.ptr i (Nat.add off (Nat.mul j s)))) none) v) ix
def ixVE (len s : Nat) (agg : Bool) (n : Nat) (v ix : EV) (k : EV → R) : R := onIx (fun j => onAgg (fun cs => cnd (Nat.ble (Nat.succ j) len) (partK agg n cs (Nat.mul j s) k) none) v) ix
def fieldE (off : Nat) (agg : Bool) (n : Nat) (v : EV) (k : EV → R) : R := onAgg (fun cs => partK agg n cs off k) v
def convE (c : IntKind) (v : EV) (k : EV → R) : R := onInt (fun _ n => k (.int c (wrapF c n))) v
def extrE (ix : Nat) (v : EV) (k : EV → R) : R := onTup (fun l => oB k (nthR l ix)) v
def newE (o : AObj) (h : AHeap) (k : EV → AHeap → R) : R := k (.ptr h.next 0) (h.new o)
def boxE (t : TypeId) (v : EV) (h : AHeap) (k : EV → AHeap → R) : R := cnd v.plain (k (.ptr h.next 0) (h.new (.cells v.cells t))) none
def lenE (v : EV) (k : EV → R) : R := oB (fun n => k (.int .i64 (.ofNat n))) (lenOf v)
def andE (x : R) (k : EV → AHeap → R) : R := oB (pairK k) x
def callE (c r : Caller) (f : EV) (args : List EV) (h : AHeap) : R := match f with
  | .func g a cs => c g (appR a (appR args cs)) h
  | .yld l => r l args h
  | _ => none
def buildE (place : Nat → Option (Nat × Nat)) (z : List EV) (ps : List (Nat × EV)) (k : EV → R) : R := oB (fun c => k (.agg c)) (fillR place ps z)
def s2apE (n : Nat) (v : EV) (k : EV → R) : R := match v with | .slice i off len _ _ => cnd (Nat.ble n len) (k (.ptr i off)) none | _ => none
def sliE (s : Nat) (v : EV) (lo hi mx : Option EV) (k : EV → R) : R := oB k (slc v s lo hi mx)
def sliAE (n s : Nat) (v : EV) (lo hi mx : Option EV) (k : EV → R) : R := onPtr (fun i off => oB k (slc (.slice i off n n false) s lo hi mx)) v
def makeSliceE (z : List EV) (e : TypeId) (l c : EV) (h : AHeap) : R := makeSliceM z e (fun _ => l) (fun _ => c) .nil h
def buildSliceE (z : List EV) (e : TypeId) (s n : Nat) (ps : List (Nat × EV)) (h : AHeap) : R := buildSliceM z e s n (fun _ => ps) .nil h
def makeMapE (h : AHeap) : R := some (.map h.next, h.new (.map []))
def makeChanE (s : EV) (h : AHeap) : R := makeChanM (fun _ => s) .nil h
def lookupE (T : Tab) (kt e : TypeId) (ok : Bool) (m ix : EV) (h : AHeap) : R := lookupM T kt e ok (fun _ => m) (fun _ => ix) .nil h
def mapUpdateE (T : Tab) (kt : TypeId) (m ix x : EV) (h : AHeap) : R := mapUpdateM T kt (fun _ => m) (fun _ => ix) (fun _ => x) .nil h
def sendE (c x : EV) (h : AHeap) : R := sendM (fun _ => c) (fun _ => x) .nil h
def recvE (z : EV) (c : EV) (h : AHeap) : R := recvM z (fun _ => c) .nil h
def lenChE (c : EV) (h : AHeap) : R := lenChM (fun _ => c) .nil h
def ifE (v : EV) (x y : R) : R := onB x y v
inductive RV where
  | v (x : EV)
  | c (a : EV) (t : TypeId)
def rvOf (tm : Tmps) : ResultVar → RV
  | .tmp t => .v (tmp tm t)
  | .cell a t => .c (tmp tm a) t
def resV (T : Tab) (h : AHeap) : List RV → Option (List EV)
  | [] => some []
  | .v x :: r => match resV T h r with | some l => some (x :: l) | none => none
  | .c a t :: r => match a, resV T h r, T.size t with
    | .ptr i off, some l, some n => match readAt h i off n with
      | some cs => match T.agg t with
        | some true => some (.agg cs :: l)
        | some false => (match cs with | [v] => some (v :: l) | _ => none)
        | none => none
      | none => none
    | _, _, _ => none
def resE (T : Tab) (l : List RV) (h : AHeap) : R := match resV T h l with | some [v] => some (v, h) | some l => some (.tuple l, h) | none => none
def endE (l : Nat) (v : Bool) (st : LoopState) (jump : Option Code) (h : AHeap) : R := roundEnd l v st jump .nil h []
def beginE (l : Nat) (h : AHeap) (k : AHeap → R) : R := match h.get l with
  | some (.loop .ready p f n' tm' ps asg body d) => k (h.put l (.loop .busy p f n' tm' ps asg body d))
  | _ => none
/-- Behind a loop over a function. -/
def behE (l : Nat) (r : R) (k : AHeap → R) (ex : Nat → AHeap → R) (ret : AHeap → R) : R := match r with
  | none => none
  | some (_, h) => match h.get l with
    | some (.loop st p f n' tm' ps asg body d) => match st with
      | .busy => none
      | _ => match p with
        | none => k (h.put l (.loop .exhausted p f n' tm' ps asg body d))
        | some (.exit id) => ex id (h.put l (.loop .exhausted p f n' tm' ps asg body d))
        | some .ret => ret (h.put l (.loop .exhausted p f n' tm' ps asg body d))
        | some _ => none
    | _ => none
def rangeE (c : Caller) (T : Tab) (g n i : Nat) (f : EV) (tm : Tmps) (h : AHeap) (ds : List Nat) (k : AHeap → List Nat → R) (ex : Nat → AHeap → List Nat → R) (ret : AHeap → List Nat → R) : R := match f with
  | .func q first captured => behE (Nat.succ h.next) (c q (first ++ (.yld (Nat.succ h.next) :: captured)) ((h.new (.deferred true)).new (.loop .ready none g n tm (rangeAt T g i).2.1 (rangeAt T g i).2.2.1 (rangeAt T g i).2.2.2 h.next)))
      (fun h' => k h' (h.next :: ds)) (fun id h' => ex id h' (h.next :: ds)) (fun h' => ret h' (h.next :: ds))
  | _ => none
def rangeIn (c : Caller) (T : Tab) (g n i l0 : Nat) (f : EV) (tm : Tmps) (h : AHeap) (ds : List Nat) (k : AHeap → List Nat → R) (ex : Nat → AHeap → List Nat → R) (ret : AHeap → List Nat → R) : R := match f with
  | .func q first captured => match h.get l0 with
    | some (.loop _ _ _ _ _ _ _ _ d) => behE h.next (c q (first ++ (.yld h.next :: captured)) (h.new (.loop .ready none g n tm (rangeAt T g i).2.1 (rangeAt T g i).2.2.1 (rangeAt T g i).2.2.2 d)))
      (fun h' => k h' ds) (fun id h' => ex id h' ds) (fun h' => ret h' ds)
    | _ => none
  | _ => none
/-! regions that draw their order -/
def drawE (h : AHeap) (k : Nat → DX → R) : R := k h.next ⟨0, [], [], [], []⟩
def loadE (i b base : Nat) (x : EV) (s : DX) (k : DX → R) : R := onPtr (fun q _ => cnd (loadOk b base q s) (k (s.ld i q)) none) x
def newS (i : Nat) (h : AHeap) (s : DX) (k : DX → R) : R := k (s.new i h.next)
def stoE (i b : Nat) (x : EV) (s : DX) (k : DX → R) : R := onPtr (fun q _ => cnd (stoOk b q s) (k (s.sto i q)) none) x
def purE (h : AHeap) (k : AHeap → R) : R := k ⟨.nil, h.next, h.next⟩
def bigE (i b : Nat) (s : DX) (h : AHeap) (call : AHeap → R) (k : EV → AHeap → DX → R) : R := cnd (bigOk b s) (andE (call (bigFront b s h)) fun v h' => bigBack i b s h h' fun s h => k v h s) none
end

/-! ### what the combinators do -/
section
variable {e a b x y ix lo' : EF} {k : KF} {c1 c2 : CF} {tm : Tmps} {h : AHeap} {ds : List Nat} {T : Tab} {call round : Caller}
theorem buildK_e (place : Nat → Option (Nat × Nat)) (z : List EV) (ps : Tmps → List (Nat × EV)) : valK (buildV place z ps) k tm h ds = buildE place z (ps tm) (fun v => k v tm h ds) := by
  unfold valK buildV buildE
  cases fillR place (ps tm) z <;> rfl
theorem negK_e : valK (negV e) k tm h ds = negE (e tm) (fun v => k v tm h ds) := by
  unfold valK negV negE
  cases e tm <;> rfl
theorem s2apK_e (n : Nat) : valK (s2apV n e) k tm h ds = s2apE n (e tm) (fun v => k v tm h ds) := by
  unfold valK s2apV s2apE
  cases e tm <;> try rfl
  rename_i i off len a b
  simp only
  cases Nat.ble n len <;> rfl
theorem sliAK_e (n s : Nat) (lo hi mx : Tmps → Option EV) : valK (sliArrV n s e lo hi mx) k tm h ds = sliAE n s (e tm) (lo tm) (hi tm) (mx tm) (fun v => k v tm h ds) := by
  unfold valK sliArrV sliAE onPtr
  cases e tm <;> rfl
theorem callVK_e (xs : Tmps → List EV) : callVK call round e xs k tm h ds = andE (callE call round (e tm) (xs tm) h) (fun v h => k v tm h ds) := by
  unfold callVK callE andE
  cases e tm <;> rfl
theorem resF_e (res : List ResultVar) : resF T res tm h = resE T (res.map (rvOf tm)) h := by
  have hv : ∀ l : List ResultVar, resultsOf T tm h l = resV T h (l.map (rvOf tm)) := by
    intro l
    induction l with
    | nil => rfl
    | cons a r ih =>
      cases a with
      | tmp t => simp only [resultsOf, List.map_cons, rvOf, resV, ih]; rfl
      | cell a t =>
        simp only [resultsOf, List.map_cons, rvOf, resV, ih]
        cases tmp tm a <;> rfl
  rw [resF_eq]
  unfold resK resE
  rw [hv]
  rfl
theorem retC_e (res : List ResultVar) : retC T res tm h ds = unwindF ds h (fun h => resE T (res.map (rvOf tm)) h) := by
  have : resF T res tm = fun h => resE T (res.map (rvOf tm)) h := funext fun h => resF_e res
  show unwindF ds h (resF T res tm) = _
  rw [this]
theorem beginC_e {l : Nat} : beginC l c1 tm h ds = beginE l h (fun h => c1 tm h ds) := by
  unfold beginC beginE
  cases h.get l with
  | none => rfl
  | some o =>
    cases o <;> try rfl
theorem roundEnd_e {l : Nat} {v : Bool} {st : LoopState} {j : Option Code} : roundEnd l v st j tm h ds = endE l v st j h := by
  unfold endE roundEnd
  rfl
theorem behindC_e {out : Nat → CF} {env : Env} {ret kk : CF} {l : Nat} {r : R} : behindC out env ret kk tm ds l r = behE l r (fun h => kk tm h ds) (fun id h => envC out env id tm h ds) (fun h => ret tm h ds) := by
  unfold behindC behE
  cases r with
  | none => rfl
  | some p =>
    obtain ⟨v, h⟩ := p
    simp only
    cases h.get l with
    | none => rfl
    | some o =>
      cases o <;> try rfl
theorem rangeS_e {g n i : Nat} {out : Nat → CF} {env : Env} {ret kk : CF} {o : Operand} (ho : (rangeAt T g i).1 = o) : rangeS T call g n none i out env ret kk tm h ds =
    match evalO tm o with
    | some f => rangeE call T g n i f tm h ds (fun h ds => kk tm h ds) (fun id h ds => envC out env id tm h ds) (fun h ds => ret tm h ds)
    | none => none := by
  subst ho
  unfold rangeS rangeC
  cases evalO tm (rangeAt T g i).1 with
  | none => rfl
  | some f =>
    cases f <;> rfl
theorem rangeS_in {g n i l0 : Nat} {out : Nat → CF} {env : Env} {ret kk : CF} {o : Operand} (ho : (rangeAt T g i).1 = o) : rangeS T call g n (some l0) i out env ret kk tm h ds =
    match evalO tm o with
    | some f => rangeIn call T g n i l0 f tm h ds (fun h ds => kk tm h ds) (fun id h ds => envC out env id tm h ds) (fun h ds => ret tm h ds)
    | none => none := by
  subst ho
  unfold rangeS rangeC
  cases evalO tm (rangeAt T g i).1 with
  | none => rfl
  | some f =>
    cases f <;> rfl
theorem evalO_tmp' (t : Nat) : evalO tm (.tmp t) = some (tmp tm t) := rfl
theorem evalO_func (f : Nat) : evalO tm (.func f) = some (.func f [] []) := rfl
theorem envC_nil (out : Nat → CF) (id : Nat) : envC out [] id = out id := rfl
theorem roundF_run {K l : Nat} {args : List EV} {st : LoopState} {p : Option Code} {f n : Nat} {tm tm' : Tmps} {ps : List Tmp} {asg body : Code} {d : Nat} (hg : h.get l = some (.loop st p f n tm ps asg body d)) (hs : setParams ps args n tm = some tm') :
    roundF T call round K l args h = codeK T call round K f n (some l) (fun id => roundEnd l false .done (some (.exit id))) (roundEnd l false .done (some .ret)) asg []
        (beginC l (codeK T call round K f n (some l) (fun id => roundEnd l false .done (some (.exit id))) (roundEnd l false .done (some .ret)) body [] (roundEnd l true .ready none))) tm' h [] := by
  unfold roundF
  rw [hg]
  simp only
  rw [hs]
theorem cnd_cong {α : Type} {b b' : Bool} {x x' y y' : α} (hb : b = b') (h1 : b' = true → x = x') (h2 : b' = false → y = y') : cnd b x y = cnd b' x' y' := by
  subst hb; cases b with
  | true => rw [cnd_true, cnd_true, h1 rfl]
  | false => rw [cnd_false, cnd_false, h2 rfl]
theorem lq {m n d : Nat} (h : n ≤ d) (e : Nat.ble m n = true) : m ≤ d := Nat.le_trans (Nat.le_of_ble_eq_true e) h
theorem lit_eq (i j : Nat) : (i = j) = (Nat.beq i j = true) := by rw [Nat.beq_eq]
end
/-- What the combinators do, and temporaries. -/
theorem dd :
    (∀ (e : EF) (p : PF) (c : CF) (tm : Tmps) (h : AHeap) (ds : List Nat), mv e p c tm h ds = c (p (some (e tm)) tm) h ds) ∧
    (∀ (e : EF) (k : KF) (tm : Tmps) (h : AHeap) (ds : List Nat), moveK e k tm h ds = k (e tm) tm h ds) ∧
    (∀ (p : PF) (c : CF) (v : EV) (tm : Tmps) (h : AHeap) (ds : List Nat), put p c v tm h ds = c (p (some v) tm) h ds) ∧
    (∀ (c : CF) (v : EV) (tm : Tmps) (h : AHeap) (ds : List Nat), dropS c v tm h ds = c tm h ds) ∧
    (∀ (v : EV) (tm : Tmps), constE v tm = v) ∧
    (∀ (c a b : EF) (k : KF) (tm : Tmps) (h : AHeap) (ds : List Nat), pickK c a b k tm h ds = pickE (c tm) (a tm) (b tm) (fun v => k v tm h ds)) ∧
    (∀ (g : IG) (f : EV → EV → Option EV) (a b : EF) (k : KF) (tm : Tmps) (h : AHeap) (ds : List Nat), intK g f a b k tm h ds = intE g f (a tm) (b tm) (fun v => k v tm h ds)) ∧
    (∀ (f : EV → EV → Option EV) (a b : EF) (k : KF) (tm : Tmps) (h : AHeap) (ds : List Nat), binK f a b k tm h ds = binE f (a tm) (b tm) (fun v => k v tm h ds)) ∧
    (∀ (e : EF) (k : KF) (tm : Tmps) (h : AHeap) (ds : List Nat), notK e k tm h ds = notE (e tm) (fun v => k v tm h ds)) ∧
    (∀ (e : EF) (k : KF) (tm : Tmps) (h : AHeap) (ds : List Nat), nilK e k tm h ds = nilE (e tm) (fun v => k v tm h ds)) ∧
    (∀ (c : Nat) (e : EF) (k : KF) (tm : Tmps) (h : AHeap) (ds : List Nat), offK c e k tm h ds = offE c (e tm) (fun v => k v tm h ds)) ∧
    (∀ (len s : Nat) (e ix : EF) (k : KF) (tm : Tmps) (h : AHeap) (ds : List Nat), ixArrK len s e ix k tm h ds = ixAE len s (e tm) (ix tm) (fun v => k v tm h ds)) ∧
    (∀ (s : Nat) (e ix : EF) (k : KF) (tm : Tmps) (h : AHeap) (ds : List Nat), ixSliK s e ix k tm h ds = ixSE s (e tm) (ix tm) (fun v => k v tm h ds)) ∧
    (∀ (len s : Nat) (agg : Bool) (n : Nat) (e ix : EF) (k : KF) (tm : Tmps) (h : AHeap) (ds : List Nat), ixValK len s agg n e ix k tm h ds = ixVE len s agg n (e tm) (ix tm) (fun v => k v tm h ds)) ∧
    (∀ (off : Nat) (agg : Bool) (n : Nat) (e : EF) (k : KF) (tm : Tmps) (h : AHeap) (ds : List Nat), fieldK off agg n e k tm h ds = fieldE off agg n (e tm) (fun v => k v tm h ds)) ∧
    (∀ (c : IntKind) (e : EF) (k : KF) (tm : Tmps) (h : AHeap) (ds : List Nat), convK c e k tm h ds = convE c (e tm) (fun v => k v tm h ds)) ∧
    (∀ (ix : Nat) (e : EF) (k : KF) (tm : Tmps) (h : AHeap) (ds : List Nat), extrK ix e k tm h ds = extrE ix (e tm) (fun v => k v tm h ds)) ∧
    (∀ (e : EF) (k : KF) (tm : Tmps) (h : AHeap) (ds : List Nat), load1K e k tm h ds = ld1E (e tm) h (fun v => k v tm h ds)) ∧
    (∀ (n : Nat) (e : EF) (k : KF) (tm : Tmps) (h : AHeap) (ds : List Nat), loadNK n e k tm h ds = ldNE n (e tm) h (fun v => k v tm h ds)) ∧
    (∀ (n : Nat) (a x : EF) (k : KF) (tm : Tmps) (h : AHeap) (ds : List Nat), storeK n a x k tm h ds = stE n (a tm) (x tm) h (fun h => k (.tuple []) tm h ds)) ∧
    (∀ (z : List EV) (t : TypeId) (k : KF) (tm : Tmps) (h : AHeap) (ds : List Nat), allocK z t k tm h ds = newE (.cells z t) h (fun v h => k v tm h ds)) ∧
    (∀ (t : TypeId) (e : EF) (k : KF) (tm : Tmps) (h : AHeap) (ds : List Nat), boxK t e k tm h ds = boxE t (e tm) h (fun v h => k v tm h ds)) ∧
    (∀ (e : EF) (k : KF) (tm : Tmps) (h : AHeap) (ds : List Nat), lenK e k tm h ds = lenE (e tm) (fun v => k v tm h ds)) ∧
    (∀ (call : Caller) (g : Nat) (xs : Tmps → List EV) (k : KF) (tm : Tmps) (h : AHeap) (ds : List Nat), callK call g xs k tm h ds = andE (call g (xs tm) h) (fun v h => k v tm h ds)) ∧
    (∀ (call round : Caller) (e : EF) (xs : Tmps → List EV) (k : KF) (tm : Tmps) (h : AHeap) (ds : List Nat), callVK call round e xs k tm h ds = andE (callE call round (e tm) (xs tm) h) (fun v h => k v tm h ds)) ∧
    (∀ (e : TypeId) (size : Nat) (s x : EF) (k : KF) (tm : Tmps) (h : AHeap) (ds : List Nat), slowK (appendM e size s x) k tm h ds = andE (appendF e size (s tm) (x tm) h) (fun v h => k v tm h ds)) ∧
    (∀ (T : Tab) (b : Builtin) (ts : Array TypeId) (xs : Tmps → List EV) (k : KF) (tm : Tmps) (h : AHeap) (ds : List Nat), slowK (builtinM T b ts xs) k tm h ds = andE (builtin T b ts (xs tm) h) (fun v h => k v tm h ds)) ∧
    (∀ (z : List EV) (t : TypeId) (l c : EF) (k : KF) (tm : Tmps) (h : AHeap) (ds : List Nat), slowK (makeSliceM z t l c) k tm h ds = andE (makeSliceE z t (l tm) (c tm) h) (fun v h => k v tm h ds)) ∧
    (∀ (z : List EV) (t : TypeId) (s n : Nat) (ps : Tmps → List (Nat × EV)) (k : KF) (tm : Tmps) (h : AHeap) (ds : List Nat), slowK (buildSliceM z t s n ps) k tm h ds = andE (buildSliceE z t s n (ps tm) h) (fun v h => k v tm h ds)) ∧
    (∀ (k : KF) (tm : Tmps) (h : AHeap) (ds : List Nat), slowK makeMapM k tm h ds = andE (makeMapE h) (fun v h => k v tm h ds)) ∧
    (∀ (s : EF) (k : KF) (tm : Tmps) (h : AHeap) (ds : List Nat), slowK (makeChanM s) k tm h ds = andE (makeChanE (s tm) h) (fun v h => k v tm h ds)) ∧
    (∀ (T : Tab) (kt t : TypeId) (ok : Bool) (m ix : EF) (k : KF) (tm : Tmps) (h : AHeap) (ds : List Nat), slowK (lookupM T kt t ok m ix) k tm h ds = andE (lookupE T kt t ok (m tm) (ix tm) h) (fun v h => k v tm h ds)) ∧
    (∀ (T : Tab) (kt : TypeId) (m ix x : EF) (k : KF) (tm : Tmps) (h : AHeap) (ds : List Nat), slowK (mapUpdateM T kt m ix x) k tm h ds = andE (mapUpdateE T kt (m tm) (ix tm) (x tm) h) (fun v h => k v tm h ds)) ∧
    (∀ (c x : EF) (k : KF) (tm : Tmps) (h : AHeap) (ds : List Nat), slowK (sendM c x) k tm h ds = andE (sendE (c tm) (x tm) h) (fun v h => k v tm h ds)) ∧
    (∀ (z : EV) (c : EF) (k : KF) (tm : Tmps) (h : AHeap) (ds : List Nat), slowK (recvM z c) k tm h ds = andE (recvE z (c tm) h) (fun v h => k v tm h ds)) ∧
    (∀ (c : EF) (k : KF) (tm : Tmps) (h : AHeap) (ds : List Nat), slowK (lenChM c) k tm h ds = andE (lenChE (c tm) h) (fun v h => k v tm h ds)) ∧
    (∀ (place : Nat → Option (Nat × Nat)) (z : List EV) (ps : Tmps → List (Nat × EV)) (k : KF) (tm : Tmps) (h : AHeap) (ds : List Nat), valK (buildV place z ps) k tm h ds = buildE place z (ps tm) (fun v => k v tm h ds)) ∧
    (∀ (f : Nat) (xs cs : Tmps → List EV) (k : KF) (tm : Tmps) (h : AHeap) (ds : List Nat), valK (makeFuncV f xs cs) k tm h ds = k (.func f (xs tm) (cs tm)) tm h ds) ∧
    (∀ (e : EF) (k : KF) (tm : Tmps) (h : AHeap) (ds : List Nat), valK (negV e) k tm h ds = negE (e tm) (fun v => k v tm h ds)) ∧
    (∀ (n : Nat) (e : EF) (k : KF) (tm : Tmps) (h : AHeap) (ds : List Nat), valK (s2apV n e) k tm h ds = s2apE n (e tm) (fun v => k v tm h ds)) ∧
    (∀ (n s : Nat) (e : EF) (lo hi mx : Tmps → Option EV) (k : KF) (tm : Tmps) (h : AHeap) (ds : List Nat), valK (sliArrV n s e lo hi mx) k tm h ds = sliAE n s (e tm) (lo tm) (hi tm) (mx tm) (fun v => k v tm h ds)) ∧
    (∀ (s : Nat) (e : EF) (lo hi mx : Tmps → Option EV) (k : KF) (tm : Tmps) (h : AHeap) (ds : List Nat), valK (sliV s e lo hi mx) k tm h ds = sliE s (e tm) (lo tm) (hi tm) (mx tm) (fun v => k v tm h ds)) ∧
    (∀ (w : Tmps → Bool) (yes : CF) (no : KF) (tm : Tmps) (h : AHeap) (ds : List Nat), guardK w yes no tm h ds = cnd (w tm) (yes tm h ds) (no (.tuple []) tm h ds)) ∧
    (∀ (w : Tmps → Bool) (yes no : CF) (tm : Tmps) (h : AHeap) (ds : List Nat), guard2 w yes no tm h ds = cnd (w tm) (yes tm h ds) (no tm h ds)) ∧
    (∀ (e : EF) (a b : CF) (tm : Tmps) (h : AHeap) (ds : List Nat), condC e a b tm h ds = ifE (e tm) (a tm h ds) (b tm h ds)) ∧
    (∀ (tm : Tmps) (h : AHeap) (ds : List Nat), badC tm h ds = none) ∧
    (∀ (tm : Tmps) (h : AHeap) (ds : List Nat), ret0 tm h ds = unwindF ds h fun h => some (.tuple [], h)) ∧
    (∀ (p : EF) (tm : Tmps) (h : AHeap) (ds : List Nat), ret1 p tm h ds = unwindF ds h fun h => some (p tm, h)) ∧
    (∀ (p q : EF) (tm : Tmps) (h : AHeap) (ds : List Nat), ret2 p q tm h ds = unwindF ds h fun h => some (.tuple [p tm, q tm], h)) ∧
    (∀ (T : Tab) (res : List ResultVar) (tm : Tmps) (h : AHeap) (ds : List Nat), retC T res tm h ds = unwindF ds h (fun h => resE T (res.map (rvOf tm)) h)) ∧
    (∀ (h : AHeap) (k : AHeap → R), unwindF [] h k = k h) ∧
    (∀ (l : Nat) (c : CF) (tm : Tmps) (h : AHeap) (ds : List Nat), beginC l c tm h ds = beginE l h (fun h => c tm h ds)) ∧
    (∀ (l : Nat) (v : Bool) (st : LoopState) (j : Option Code) (tm : Tmps) (h : AHeap) (ds : List Nat), roundEnd l v st j tm h ds = endE l v st j h) ∧
    (∀ (k : Nat → DX → CF) (tm : Tmps) (h : AHeap) (ds : List Nat), drawS k tm h ds = drawE h (fun base s => k base s tm h ds)) ∧
    (∀ (i b base : Nat) (e : EF) (s : DX) (k : DX → CF) (tm : Tmps) (h : AHeap) (ds : List Nat), dLoad i b base e s k tm h ds = loadE i b base (e tm) s (fun s => k s tm h ds)) ∧
    (∀ (i : Nat) (s : DX) (k : DX → CF) (tm : Tmps) (h : AHeap) (ds : List Nat), dNew i s k tm h ds = newS i h s (fun s => k s tm h ds)) ∧
    (∀ (i b : Nat) (e : EF) (s : DX) (k : DX → CF) (tm : Tmps) (h : AHeap) (ds : List Nat), dSto i b e s k tm h ds = stoE i b (e tm) s (fun s => k s tm h ds)) ∧
    (∀ (o : OC) (k : KF) (tm : Tmps) (h : AHeap) (ds : List Nat), dPur o k tm h ds = o (fun v tm _ ds => k v tm h ds) tm ⟨.nil, h.next, h.next⟩ ds) ∧
    (∀ (i b : Nat) (s : DX) (o : OC) (k : DX → KF) (tm : Tmps) (h : AHeap) (ds : List Nat), dBig i b s o k tm h ds = cnd (bigOk b s) (o (fun v tm h' ds => bigBack i b s h h' (fun s h => k s v tm h ds)) tm (bigFront b s h) ds) none) ∧
    (∀ (h : AHeap) (k : AHeap → R), purE h k = k ⟨.nil, h.next, h.next⟩) ∧
    (∀ (i b : Nat) (s : DX) (h : AHeap) (call : AHeap → R) (k : EV → AHeap → DX → R), bigE i b s h call k = cnd (bigOk b s) (andE (call (bigFront b s h)) fun v h' => bigBack i b s h h' fun s h => k v h s) none) ∧
    (∀ (tm : Tmps) (t : Nat), rvOf tm (.tmp t) = .v (tmp tm t)) ∧ (∀ (tm : Tmps) (a t : Nat), rvOf tm (.cell a t) = .c (tmp tm a) t) ∧
    (∀ (tm : Tmps) (j i : Nat) (v : EV), tmp (tm.put j (some v)) i = if j = i then v else tmp tm i) ∧
    (∀ (t : Nat), tmp .nil t = .tuple []) ∧
    (∀ (a : EV) (l : List EV) (i : Nat) (t : Tr EV), setArgs (a :: l) i t = setArgs l (Nat.succ i) (t.put i (some a))) ∧ (∀ (i : Nat) (t : Tr EV), setArgs [] i t = t) ∧
    (∀ (tm : Tmps) (a : ResultVar) (l : List ResultVar), List.map (rvOf tm) (a :: l) = rvOf tm a :: List.map (rvOf tm) l) ∧ (∀ (tm : Tmps), List.map (rvOf tm) [] = []) :=
  ⟨fun _ _ _ _ _ _ => rfl, fun _ _ _ _ _ => rfl, fun _ _ _ _ _ _ => rfl, fun _ _ _ _ _ => rfl, fun _ _ => rfl, fun _ _ _ _ _ _ _ => rfl, fun _ _ _ _ _ _ _ _ => rfl, fun _ _ _ _ _ _ _ => rfl,
   fun _ _ _ _ _ => rfl, fun _ _ _ _ _ => rfl, fun _ _ _ _ _ _ => rfl, fun _ _ _ _ _ _ _ _ => rfl, fun _ _ _ _ _ _ _ => ixSliK_eq, fun _ _ _ _ _ _ _ _ _ _ => rfl, fun _ _ _ _ _ _ _ _ => rfl, fun _ _ _ _ _ _ => rfl, fun _ _ _ _ _ _ => rfl,
   fun _ _ _ _ _ => load1K_eq, fun _ _ _ _ _ _ => loadNK_eq, fun _ _ _ _ _ _ _ => rfl, fun _ _ _ _ _ _ => rfl, fun _ _ _ _ _ _ => rfl, fun _ _ _ _ _ => rfl, fun _ _ _ _ _ _ _ => rfl, fun _ _ _ _ _ _ _ _ => callVK_e _,
   fun _ _ _ _ _ _ _ _ => rfl, fun _ _ _ _ _ _ _ _ => rfl, fun _ _ _ _ _ _ _ _ => rfl, fun _ _ _ _ _ _ _ _ _ => rfl, fun _ _ _ _ => rfl, fun _ _ _ _ _ => rfl, fun _ _ _ _ _ _ _ _ _ _ => rfl, fun _ _ _ _ _ _ _ _ _ => rfl,
   fun _ _ _ _ _ _ => rfl, fun _ _ _ _ _ _ => rfl, fun _ _ _ _ _ => rfl, fun _ _ _ _ _ _ _ => buildK_e _ _ _, fun _ _ _ _ _ _ _ => rfl, fun _ _ _ _ _ => negK_e, fun _ _ _ _ _ _ => s2apK_e _, fun _ _ _ _ _ _ _ _ _ _ => sliAK_e _ _ _ _ _, fun _ _ _ _ _ _ _ _ _ => rfl,
   fun _ _ _ _ _ _ => rfl, fun _ _ _ _ _ _ => rfl, fun _ _ _ _ _ _ => rfl, fun _ _ _ => rfl, fun _ _ _ => rfl, fun _ _ _ _ => rfl, fun _ _ _ _ _ => rfl, fun _ _ _ _ _ => retC_e _, fun _ _ => rfl, fun _ _ _ _ _ => beginC_e, fun _ _ _ _ _ _ _ => roundEnd_e,
   fun _ _ _ _ => rfl, fun _ _ _ _ _ _ _ _ _ => rfl, fun _ _ _ _ _ _ => rfl, fun _ _ _ _ _ _ _ _ => rfl, fun _ _ _ _ _ => rfl, fun _ _ _ _ _ _ _ _ => rfl, fun _ _ => rfl, fun _ _ _ _ _ _ => rfl,
   fun _ _ => rfl, fun _ _ _ => rfl, tmp_putS, fun _ => rfl, fun _ _ _ _ => rfl, fun _ _ => rfl, fun _ _ _ => rfl, fun _ => rfl⟩
end Go.Ev

namespace Go.Ev
open Go.Proofs
set_option maxRecDepth 100000
noncomputable section
def mi (n : Nat) : EV := .int .i64 (.ofNat n)
def mb (n : Nat) : EV := .int .u8 (.ofNat n)
def repR (n : Nat) (v : EV) : List EV := @Nat.rec (fun _ => List EV) [] (fun _ ih => v :: ih) n
def crcCells : List EV := [.int .u32 (.ofNat 0), .int .u32 (.ofNat 4067132163), .int .u32 (.ofNat 3778769143), .int .u32 (.ofNat 324072436), .int .u32 (.ofNat 3348797215), .int .u32 (.ofNat 904991772), .int .u32 (.ofNat 648144872), .int .u32 (.ofNat 3570033899), .int .u32 (.ofNat 2329499855), .int .u32 (.ofNat 2024987596), .int .u32 (.ofNat 1809983544), .int .u32 (.ofNat 2575936315), .int .u32 (.ofNat 1296289744), .int .u32 (.ofNat 3207089363), .int .u32 (.ofNat 2893594407), .int .u32 (.ofNat 1578318884), .int .u32 (.ofNat 274646895), .int .u32 (.ofNat 3795141740), .int .u32 (.ofNat 4049975192), .int .u32 (.ofNat 51262619), .int .u32 (.ofNat 3619967088), .int .u32 (.ofNat 632279923), .int .u32 (.ofNat 922689671), .int .u32 (.ofNat 3298075524), .int .u32 (.ofNat 2592579488), .int .u32 (.ofNat 1760304291), .int .u32 (.ofNat 2075979607), .int .u32 (.ofNat 2312596564), .int .u32 (.ofNat 1562183871), .int .u32 (.ofNat 2943781820), .int .u32 (.ofNat 3156637768), .int .u32 (.ofNat 1313733451), .int .u32 (.ofNat 549293790), .int .u32 (.ofNat 3537243613), .int .u32 (.ofNat 3246849577), .int .u32 (.ofNat 871202090), .int .u32 (.ofNat 3878099393), .int .u32 (.ofNat 357341890), .int .u32 (.ofNat 102525238), .int .u32 (.ofNat 4101499445), .int .u32 (.ofNat 2858735121), .int .u32 (.ofNat 1477399826), .int .u32 (.ofNat 1264559846), .int .u32 (.ofNat 3107202533), .int .u32 (.ofNat 1845379342), .int .u32 (.ofNat 2677391885), .int .u32 (.ofNat 2361733625), .int .u32 (.ofNat 2125378298), .int .u32 (.ofNat 820201905), .int .u32 (.ofNat 3263744690), .int .u32 (.ofNat 3520608582), .int .u32 (.ofNat 598981189), .int .u32 (.ofNat 4151959214), .int .u32 (.ofNat 85089709), .int .u32 (.ofNat 373468761), .int .u32 (.ofNat 3827903834), .int .u32 (.ofNat 3124367742), .int .u32 (.ofNat 1213305469), .int .u32 (.ofNat 1526817161), .int .u32 (.ofNat 2842354314), .int .u32 (.ofNat 2107672161), .int .u32 (.ofNat 2412447074), .int .u32 (.ofNat 2627466902), .int .u32 (.ofNat 1861252501), .int .u32 (.ofNat 1098587580), .int .u32 (.ofNat 3004210879), .int .u32 (.ofNat 2688576843), .int .u32 (.ofNat 1378610760), .int .u32 (.ofNat 2262928035), .int .u32 (.ofNat 1955203488), .int .u32 (.ofNat 1742404180), .int .u32 (.ofNat 2511436119), .int .u32 (.ofNat 3416409459), .int .u32 (.ofNat 969524848), .int .u32 (.ofNat 714683780), .int .u32 (.ofNat 3639785095), .int .u32 (.ofNat 205050476), .int .u32 (.ofNat 4266873199), .int .u32 (.ofNat 3976438427), .int .u32 (.ofNat 526918040), .int .u32 (.ofNat 1361435347), .int .u32 (.ofNat 2739821008), .int .u32 (.ofNat 2954799652), .int .u32 (.ofNat 1114974503), .int .u32 (.ofNat 2529119692), .int .u32 (.ofNat 1691668175), .int .u32 (.ofNat 2005155131), .int .u32 (.ofNat 2247081528), .int .u32 (.ofNat 3690758684), .int .u32 (.ofNat 697762079), .int .u32 (.ofNat 986182379), .int .u32 (.ofNat 3366744552), .int .u32 (.ofNat 476452099), .int .u32 (.ofNat 3993867776), .int .u32 (.ofNat 4250756596), .int .u32 (.ofNat 255256311), .int .u32 (.ofNat 1640403810), .int .u32 (.ofNat 2477592673), .int .u32 (.ofNat 2164122517), .int .u32 (.ofNat 1922457750), .int .u32 (.ofNat 2791048317), .int .u32 (.ofNat 1412925310), .int .u32 (.ofNat 1197962378), .int .u32 (.ofNat 3037525897), .int .u32 (.ofNat 3944729517), .int .u32 (.ofNat 427051182), .int .u32 (.ofNat 170179418), .int .u32 (.ofNat 4165941337), .int .u32 (.ofNat 746937522), .int .u32 (.ofNat 3740196785), .int .u32 (.ofNat 3451792453), .int .u32 (.ofNat 1070968646), .int .u32 (.ofNat 1905808397), .int .u32 (.ofNat 2213795598), .int .u32 (.ofNat 2426610938), .int .u32 (.ofNat 1657317369), .int .u32 (.ofNat 3053634322), .int .u32 (.ofNat 1147748369), .int .u32 (.ofNat 1463399397), .int .u32 (.ofNat 2773627110), .int .u32 (.ofNat 4215344322), .int .u32 (.ofNat 153784257), .int .u32 (.ofNat 444234805), .int .u32 (.ofNat 3893493558), .int .u32 (.ofNat 1021025245), .int .u32 (.ofNat 3467647198), .int .u32 (.ofNat 3722505002), .int .u32 (.ofNat 797665321), .int .u32 (.ofNat 2197175160), .int .u32 (.ofNat 1889384571), .int .u32 (.ofNat 1674398607), .int .u32 (.ofNat 2443626636), .int .u32 (.ofNat 1164749927), .int .u32 (.ofNat 3070701412), .int .u32 (.ofNat 2757221520), .int .u32 (.ofNat 1446797203), .int .u32 (.ofNat 137323447), .int .u32 (.ofNat 4198817972), .int .u32 (.ofNat 3910406976), .int .u32 (.ofNat 461344835), .int .u32 (.ofNat 3484808360), .int .u32 (.ofNat 1037989803), .int .u32 (.ofNat 781091935), .int .u32 (.ofNat 3705997148), .int .u32 (.ofNat 2460548119), .int .u32 (.ofNat 1623424788), .int .u32 (.ofNat 1939049696), .int .u32 (.ofNat 2180517859), .int .u32 (.ofNat 1429367560), .int .u32 (.ofNat 2807687179), .int .u32 (.ofNat 3020495871), .int .u32 (.ofNat 1180866812), .int .u32 (.ofNat 410100952), .int .u32 (.ofNat 3927582683), .int .u32 (.ofNat 4182430767), .int .u32 (.ofNat 186734380), .int .u32 (.ofNat 3756733383), .int .u32 (.ofNat 763408580), .int .u32 (.ofNat 1053836080), .int .u32 (.ofNat 3434856499), .int .u32 (.ofNat 2722870694), .int .u32 (.ofNat 1344288421), .int .u32 (.ofNat 1131464017), .int .u32 (.ofNat 2971354706), .int .u32 (.ofNat 1708204729), .int .u32 (.ofNat 2545590714), .int .u32 (.ofNat 2229949006), .int .u32 (.ofNat 1988219213), .int .u32 (.ofNat 680717673), .int .u32 (.ofNat 3673779818), .int .u32 (.ofNat 3383336350), .int .u32 (.ofNat 1002577565), .int .u32 (.ofNat 4010310262), .int .u32 (.ofNat 493091189), .int .u32 (.ofNat 238226049), .int .u32 (.ofNat 4233660802), .int .u32 (.ofNat 2987750089), .int .u32 (.ofNat 1082061258), .int .u32 (.ofNat 1395524158), .int .u32 (.ofNat 2705686845), .int .u32 (.ofNat 1972364758), .int .u32 (.ofNat 2279892693), .int .u32 (.ofNat 2494862625), .int .u32 (.ofNat 1725896226), .int .u32 (.ofNat 952904198), .int .u32 (.ofNat 3399985413), .int .u32 (.ofNat 3656866545), .int .u32 (.ofNat 731699698), .int .u32 (.ofNat 4283874585), .int .u32 (.ofNat 222117402), .int .u32 (.ofNat 510512622), .int .u32 (.ofNat 3959836397), .int .u32 (.ofNat 3280807620), .int .u32 (.ofNat 837199303), .int .u32 (.ofNat 582374963), .int .u32 (.ofNat 3504198960), .int .u32 (.ofNat 68661723), .int .u32 (.ofNat 4135334616), .int .u32 (.ofNat 3844915500), .int .u32 (.ofNat 390545967), .int .u32 (.ofNat 1230274059), .int .u32 (.ofNat 3141532936), .int .u32 (.ofNat 2825850620), .int .u32 (.ofNat 1510247935), .int .u32 (.ofNat 2395924756), .int .u32 (.ofNat 2091215383), .int .u32 (.ofNat 1878366691), .int .u32 (.ofNat 2644384480), .int .u32 (.ofNat 3553878443), .int .u32 (.ofNat 565732008), .int .u32 (.ofNat 854102364), .int .u32 (.ofNat 3229815391), .int .u32 (.ofNat 340358836), .int .u32 (.ofNat 3861050807), .int .u32 (.ofNat 4117890627), .int .u32 (.ofNat 119113024), .int .u32 (.ofNat 1493875044), .int .u32 (.ofNat 2875275879), .int .u32 (.ofNat 3090270611), .int .u32 (.ofNat 1247431312), .int .u32 (.ofNat 2660249211), .int .u32 (.ofNat 1828433272), .int .u32 (.ofNat 2141937292), .int .u32 (.ofNat 2378227087), .int .u32 (.ofNat 3811616794), .int .u32 (.ofNat 291187481), .int .u32 (.ofNat 34330861), .int .u32 (.ofNat 4032846830), .int .u32 (.ofNat 615137029), .int .u32 (.ofNat 3603020806), .int .u32 (.ofNat 3314634738), .int .u32 (.ofNat 939183345), .int .u32 (.ofNat 1776939221), .int .u32 (.ofNat 2609017814), .int .u32 (.ofNat 2295496738), .int .u32 (.ofNat 2058945313), .int .u32 (.ofNat 2926798794), .int .u32 (.ofNat 1545135305), .int .u32 (.ofNat 1330124605), .int .u32 (.ofNat 3173225534), .int .u32 (.ofNat 4084100981), .int .u32 (.ofNat 17165430), .int .u32 (.ofNat 307568514), .int .u32 (.ofNat 3762199681), .int .u32 (.ofNat 888469610), .int .u32 (.ofNat 3332340585), .int .u32 (.ofNat 3587147933), .int .u32 (.ofNat 665062302), .int .u32 (.ofNat 2042050490), .int .u32 (.ofNat 2346497209), .int .u32 (.ofNat 2559330125), .int .u32 (.ofNat 1793573966), .int .u32 (.ofNat 3190661285), .int .u32 (.ofNat 1279665062), .int .u32 (.ofNat 1595330642), .int .u32 (.ofNat 2910671697)]
def crcV : EV := .agg crcCells
def hookCrc : FT := fun _ _ _ args h => @List.rec EV (fun _ => R) (some (crcV, h)) (fun _ _ _ => none) args
def crc_New (_ : Nat) (h : AHeap) : R := some (crcV, h)
end
structure Agree (disp : Nat → Option FT) : Prop where
  plain : ∀ g, plainF g = true → disp g = disp3 g
  crc : disp 26 = some hookCrc
theorem crc_New_run {disp : Nat → Option FT} (H : Agree disp) {K d : Nat} (hd : 1 ≤ d) (h : AHeap) : callC TT disp K d false 26 [] h = crc_New K h := by
  obtain ⟨d, rfl⟩ : ∃ e, d = e + 1 := ⟨d - 1, by omega⟩
  rw [callC_at H.crc]; rfl
end Go.Ev

namespace Go.Ev

/-! ### it ends, and so -/
def Ok (x : R) (Q : EV → AHeap → Prop) : Prop := ∃ v h, x = some (v, h) ∧ Q v h
theorem Ok.ret {v : EV} {h : AHeap} {Q : EV → AHeap → Prop} (q : Q v h) : Ok (some (v, h)) Q := ⟨v, h, rfl, q⟩
theorem Ok.mono {x : R} {P Q : EV → AHeap → Prop} (a : Ok x P) (b : ∀ v h, P v h → Q v h) : Ok x Q := by
  obtain ⟨v, h, e, p⟩ := a; exact ⟨v, h, e, b v h p⟩
theorem Ok.andE {x : R} {k : EV → AHeap → R} {P Q : EV → AHeap → Prop} (a : Ok x P) (b : ∀ v h, P v h → Ok (k v h) Q) : Ok (andE x k) Q := by
  obtain ⟨v, h, e, p⟩ := a
  rw [e]; exact b v h p
theorem Ok.eq {x y : R} {Q : EV → AHeap → Prop} (e : x = y) (a : Ok y Q) : Ok x Q := by rw [e]; exact a

/-! ### blocks lie below the next number -/
def HB (h : AHeap) : Prop := ∀ q o, h.get q = some o → q < h.next
theorem HB.new {h : AHeap} (a : HB h) (o : AObj) : HB (h.new o) := fun q x e => by
  rw [AHeap.get_new] at e
  split at e
  · rename_i hq; rw [AHeap.new_next]; omega
  · exact Nat.lt_succ_of_lt (a q x e)
theorem HB.put {h : AHeap} (a : HB h) {i : Nat} (hi : i < h.next) (o : AObj) : HB (h.put i o) := fun q x e => by
  rw [AHeap.get_put] at e
  split at e
  · rename_i hq; subst hq; exact hi
  · exact a q x e
theorem HB.del {h : AHeap} (a : HB h) (i : Nat) : HB (h.del i) := fun q x e => by
  rw [AHeap.get_del] at e
  split at e
  · cases e
  · exact a q x e

/-! ### what may be turned -/
structure Chg (S : Nat → Prop) (h h' : AHeap) : Prop where
  get : ∀ i, i < h.next → ¬ S i → h'.get i = h.get i
  next : h.next ≤ h'.next
  mw : ∀ w, w ≤ h.mw → w ≤ h.next → (∀ i, S i → w ≤ i) → w ≤ h'.mw
  hb : HB h → HB h'
abbrev Ext : AHeap → AHeap → Prop := Chg fun _ => False
variable {S T : Nat → Prop} {h h' h1 h2 h3 : AHeap}
theorem Chg.refl (h : AHeap) : Chg S h h := ⟨fun _ _ _ => rfl, Nat.le_refl _, fun _ a _ _ => a, id⟩
theorem Chg.trans (a : Chg S h1 h2) (b : Chg S h2 h3) : Chg S h1 h3 :=
  ⟨fun i hi hs => by rw [b.get i (Nat.lt_of_lt_of_le hi a.next) hs, a.get i hi hs], Nat.le_trans a.next b.next,
   fun w w1 w2 w3 => b.mw w (a.mw w w1 w2 w3) (Nat.le_trans w2 a.next) w3, fun x => b.hb (a.hb x)⟩
theorem Chg.mono (a : Chg S h h') (st : ∀ i, S i → T i) : Chg T h h' := ⟨fun i hi hs => a.get i hi fun x => hs (st i x), a.next, fun w w1 w2 w3 => a.mw w w1 w2 fun i hi => w3 i (st i hi), a.hb⟩
/-- What is turned behind lies behind. -/
theorem Chg.then (a : Chg S h1 h2) (b : Chg T h2 h3) (st : ∀ i, T i → i < h1.next → S i) : Chg S h1 h3 := by
  refine ⟨fun i hi hs => by rw [b.get i (Nat.lt_of_lt_of_le hi a.next) fun x => hs (st i x hi), a.get i hi hs], Nat.le_trans a.next b.next, fun w w1 w2 w3 => ?_, fun x => b.hb (a.hb x)⟩
  refine b.mw w (a.mw w w1 w2 w3) (Nat.le_trans w2 a.next) fun i hi => ?_
  by_cases hl : i < h1.next
  · exact w3 i (st i hi hl)
  · omega
theorem Ext.to (a : Ext h h') : Chg S h h' := a.mono fun _ x => x.elim
theorem Chg.new (h : AHeap) (o : AObj) : Chg S h (h.new o) :=
  ⟨fun i hi _ => get_new_lt o hi, by rw [AHeap.new_next]; omega, fun w w1 _ _ => by rw [AHeap.new_mw]; exact w1, fun x => x.new o⟩
theorem Chg.put (h : AHeap) {i : Nat} (hi : S i ∨ h.next ≤ i) (hn : HB h → i < h.next) (o : AObj) : Chg S h (h.put i o) := by
  refine ⟨fun j hj hs => get_put_ne o fun e => ?_, by rw [AHeap.put_next]; exact Nat.le_refl _, fun w w1 w2 w3 => ?_, fun x => x.put (hn x) o⟩
  · subst e; rcases hi with hi | hi
    · exact hs hi
    · omega
  · rw [AHeap.put_mw]
    rcases hi with hi | hi
    · have := w3 i hi; omega
    · omega
theorem Chg.del (h : AHeap) {i : Nat} (hi : S i ∨ h.next ≤ i) : Chg S h (h.del i) := by
  refine ⟨fun j hj hs => get_del_ne fun e => ?_, by rw [AHeap.del_next]; exact Nat.le_refl _, fun w w1 w2 w3 => ?_, fun x => x.del i⟩
  · subst e; rcases hi with hi | hi
    · exact hs hi
    · omega
  · rw [AHeap.del_mw]
    rcases hi with hi | hi
    · have := w3 i hi; omega
    · omega
theorem Chg.andPut {h0 : AHeap} (x : Chg S h0 h) {i : Nat} (hi : S i ∨ h0.next ≤ i) (hn : i < h.next) (o : AObj) : Chg S h0 (h.put i o) :=
  x.then (T := fun j => j = i) (Chg.put (S := fun j => j = i) h (.inl rfl) (fun _ => hn) o) fun j hj hl => by
    have e : j = i := hj
    subst e
    rcases hi with hi | hi
    · exact hi
    · omega
theorem Chg.andNew {h0 : AHeap} (x : Chg S h0 h) (o : AObj) : Chg S h0 (h.new o) := x.trans (Chg.new _ _)
/-- What was known is known, if it isn't turned. -/
theorem Chg.at (c : Chg S h h') (hb : HB h) {i : Nat} {o : AObj} (g : h.get i = some o) (hn : ¬ S i) : h'.get i = some o := by rw [c.get i (hb i o g) hn]; exact g
theorem Ext.at (c : Ext h h') (hb : HB h) {i : Nat} {o : AObj} (g : h.get i = some o) : h'.get i = some o := Chg.at c hb g id
theorem ne_of_get {i j : Nat} {o o' : AObj} (a : h.get i = some o) (b : h.get j = some o') (n : o ≠ o') : i ≠ j := fun e => n (by rw [e, b] at a; cases a; rfl)

/-! ### regions that draw their order -/
noncomputable def AHeap.lift (h : AHeap) : AHeap := ⟨h.t, h.next, h.next⟩
structure Same (h h' : AHeap) : Prop where
  get : ∀ i, h'.get i = h.get i
  next : h'.next = h.next
theorem get_t (h : AHeap) (i : Nat) : h.get i = h.t.get i := by cases h; rfl
theorem lift_get (h : AHeap) (i : Nat) : h.lift.get i = h.get i := by rw [get_t, get_t]; rfl
theorem lift_next (h : AHeap) : h.lift.next = h.next := rfl
theorem lift_hb {h : AHeap} (a : HB h) : HB h.lift := fun q o e => a q o (by rw [← lift_get]; exact e)
theorem Same.lift (h : AHeap) : Same h h.lift := ⟨lift_get h, rfl⟩
theorem Same.refl (h : AHeap) : Same h h := ⟨fun _ => rfl, rfl⟩
theorem Same.symm {h h' : AHeap} (a : Same h h') : Same h' h := ⟨fun i => (a.get i).symm, a.next.symm⟩
theorem Same.hb {h h' : AHeap} (a : Same h h') (b : HB h) : HB h' := fun q o e => by rw [a.next]; exact b q o (by rw [← a.get]; exact e)

section
variable {i b : Nat} {s : DX} {h : AHeap} {call : AHeap → R} {k : EV → AHeap → DX → R} {P Q : EV → AHeap → Prop}
/-- A call that turns nothing. -/
theorem Ok.bigE (hb : bigOk b s = true) (hl : loose b s.nw = []) (hc : Ok (call h.lift) P) (he : ∀ v h1, P v h1 → Ext h.lift h1)
    (hk : ∀ v h1 h2, P v h1 → Same h1 h2 → Ext h h2 → Ok (k v h2 (s.big i)) Q) : Ok (bigE i b s h call k) Q := by
  obtain ⟨v, h1, e, p⟩ := hc
  have x := he v h1 p
  have hf : bigFront b s h = h.lift := by unfold bigFront; rw [hl]; rfl
  have hm : h.next ≤ h1.mw := x.mw h.next (Nat.le_refl _) (Nat.le_refl _) fun _ y => y.elim
  have hE : Ev.bigE i b s h call k = k v ⟨h1.t, h1.next, h.mw⟩ (s.big i) := by
    show cnd (bigOk b s) (Ev.andE (call (bigFront b s h)) fun v h' => bigBack i b s h h' fun s h => k v h s) none = _
    rw [hb, cnd_true, hf, e]
    show bigBack i b s h h1 (fun s h => k v h s) = _
    unfold bigBack
    rw [Nat.ble_eq_true_of_le hm, cnd_true, hl]; rfl
  rw [hE]
  refine hk v h1 _ p ⟨fun i => by rw [get_t, get_t], rfl⟩ ⟨fun i hi hn => ?_, x.next, fun w w1 _ _ => w1, fun y => ?_⟩
  · rw [get_t]; show h1.t.get i = _; rw [← get_t, x.get i hi hn, lift_get]
  · exact Same.hb (h := h1) ⟨fun i => by rw [get_t, get_t], rfl⟩ (x.hb (lift_hb y))
/-- A call that turns something, where nothing was read beside it. -/
theorem Ok.bigC (hb : bigOk b s = true) (hl : loose b s.nw = []) (hr : ∀ w, clearAll b w s.lds = true) (hc : Ok (call h.lift) P) (he : ∀ v h1, P v h1 → Chg S h.lift h1)
    (hk : ∀ v h1 h2 s', P v h1 → Same h1 h2 → Chg S h h2 → (s' = s.big i ∨ ∃ w, s' = s.turn i w ∧ w = h1.mw) → Ok (k v h2 s') Q) : Ok (Ev.bigE i b s h call k) Q := by
  obtain ⟨v, h1, e, p⟩ := hc
  have x := he v h1 p
  have hf : bigFront b s h = h.lift := by unfold bigFront; rw [hl]; rfl
  have hE : Ev.bigE i b s h call k = bigBack i b s h h1 fun s h => k v h s := by
    show cnd (bigOk b s) (Ev.andE (call (bigFront b s h)) fun v h' => bigBack i b s h h' fun s h => k v h s) none = _
    rw [hb, cnd_true, hf, e]; rfl
  rw [hE]
  unfold bigBack
  rw [hl]
  have sm : ∀ w, Same h1 ⟨h1.t, h1.next, w⟩ := fun w => ⟨fun i => by rw [get_t, get_t], rfl⟩
  have hg : ∀ w i, i < h.next → ¬ S i → (⟨h1.t, h1.next, w⟩ : AHeap).get i = h.get i := fun w i hi hn => by
    rw [(sm w).get, x.get i hi hn, lift_get]
  cases hle : Nat.ble h.next h1.mw with
  | true =>
    rw [cnd_true]
    exact hk v h1 _ _ p (sm _) ⟨hg _, x.next, fun w w1 _ _ => w1, fun y => (sm _).hb (x.hb (lift_hb y))⟩ (.inl rfl)
  | false =>
    rw [cnd_false, hr, cnd_true]
    refine hk v h1 _ _ p (sm _) ⟨hg _, x.next, fun w w1 w2 w3 => ?_, fun y => (sm _).hb (x.hb (lift_hb y))⟩ (.inr ⟨_, rfl, rfl⟩)
    have := x.mw w w2 w2 w3
    show w ≤ cnd (Nat.ble h.mw h1.mw) h.mw h1.mw
    rw [cnd_eq]; split <;> assumption
theorem loadE_lt {i b base q o : Nat} {s : DX} {k : DX → R} (hq : q < base) (hc : cnd (otherThan b q s.st) (clearOf b q s.lou) false = true) : loadE i b base (.ptr q o) s k = k (s.ld i q) := by
  show cnd (loadOk b base q s) _ none = _
  unfold loadOk
  rw [Nat.ble_eq_true_of_le (show Nat.succ q ≤ base from hq), cnd_true, hc, cnd_true]
/-- A load that knows of all that was done. -/
theorem loadE_in {i b base q o : Nat} {s : DX} {k : DX → R} (h1 : otherThan b q s.st = true) (h2 : clearOf b q s.lou = true) (h3 : within s.bg b = true) (h4 : loose b s.nw = []) : loadE i b base (.ptr q o) s k = k (s.ld i q) := by
  show cnd (loadOk b base q s) _ none = _
  unfold loadOk
  rw [h1, cnd_true, h2, h3, h4, cnd_true]
  cases Nat.ble (Nat.succ q) base <;> rfl
theorem stoE_at {i b q o : Nat} {s : DX} {k : DX → R} (hc : stoOk b q s = true) : stoE i b (.ptr q o) s k = k (s.sto i q) := by
  show cnd (stoOk b q s) _ none = _
  rw [hc, cnd_true]
end

/-! ### operations -/
section
variable {i o c n s j len : Nat} {h : AHeap} {l l' : List EV} {t : TypeId} {v : EV} {k : EV → R} {kh : EV → AHeap → R}
theorem nilE_ptr : nilE (.ptr i o) k = k (.ptr i o) := rfl
theorem offE_ptr : offE c (.ptr i o) k = k (.ptr i (o + c)) := rfl
noncomputable def rowOf : AObj → Option (List EV)
  | .cells l _ => some l
  | .vec l _ _ => some l
  | _ => none
theorem ld1E_at {x : AObj} (hg : h.get i = some x) (hr : rowOf x = some l) (hv : l[o]? = some v) : ld1E (.ptr i o) h k = k v := by
  show oB _ (readO (h.get i) o 1) = _
  rw [hg]
  have hc : cutR l o 1 = some [v] := by
    obtain ⟨h1, h2⟩ := List.getElem?_eq_some_iff.1 hv
    rw [cutR_take (by omega), List.drop_eq_getElem_cons h1, h2]; rfl
  cases x <;> first | (cases hr; done) | (cases hr; show oB _ (cutR l o 1) = _; rw [hc]; rfl)
theorem ixSE_n {q off ln rm sz : Nat} {op : Bool} {kd : IntKind} (hj : j < ln) : ixSE sz (.slice q off ln rm op) (.int kd (j : Int)) k = k (.ptr q (off + j * sz)) := ixSE_at hj k kd
theorem ldNE_at {x : AObj} (hg : h.get i = some x) (hr : rowOf x = some l) (hv : cutR l o n = some l') : ldNE n (.ptr i o) h k = k (.agg l') := by
  show oB _ (readO (h.get i) o n) = _
  rw [hg]
  cases x <;> first | (cases hr; done) | (cases hr; show oB _ (cutR l o n) = _; rw [hv]; rfl)
theorem stE_at {kk : AHeap → R} (hg : h.get i = some (.cells l t)) (hp : v.plain = true) (hn : lenR v.cells = n) (hl : laidR l o v.cells = some l') : stE n (.ptr i o) v h kk = kk (h.put i (.cells l' t)) := by
  show cnd v.plain (cnd (Nat.beq (lenR v.cells) n) (turnRow h i (fun l => laidR l o v.cells) kk) none) none = _
  rw [hp, cnd_true, hn, Nat.beq_refl, cnd_true, turnRow_cells hg, hl]; rfl
theorem stE_vec {kk : AHeap → R} {z : Nat} (hg : h.get i = some (.vec l t z)) (hp : v.plain = true) (hn : lenR v.cells = n) (hl : laidR l o v.cells = some l') : stE n (.ptr i o) v h kk = kk (h.put i (.vec l' t z)) := by
  show cnd v.plain (cnd (Nat.beq (lenR v.cells) n) (turnRow h i (fun l => laidR l o v.cells) kk) none) none = _
  rw [hp, cnd_true, hn, Nat.beq_refl, cnd_true]
  unfold turnRow; rw [hg]; simp only; rw [hl]; rfl
theorem Ok.st {kk : AHeap → R} {Q : EV → AHeap → Prop} (l' : List EV) (hg : h.get i = some (.cells l t)) (hp : v.plain = true) (hn : lenR v.cells = n) (hl : laidR l o v.cells = some l') (hk : Ok (kk (h.put i (.cells l' t))) Q) : Ok (stE n (.ptr i o) v h kk) Q := by
  rw [stE_at hg hp hn hl]; exact hk
theorem Ok.st1 {kk : AHeap → R} {Q : EV → AHeap → Prop} (hg : h.get i = some (.cells l t)) (hp : v.plain = true) (hc : v.cells = [v]) (ho : o < l.length) (hk : Ok (kk (h.put i (.cells (l.set o v) t))) Q) : Ok (stE 1 (.ptr i o) v h kk) Q := by
  rw [stE_at hg hp (by rw [hc]; rfl) (by rw [hc]; exact setNR_one v l o ho)]; exact hk
theorem Ok.st1v {kk : AHeap → R} {Q : EV → AHeap → Prop} {z : Nat} (hg : h.get i = some (.vec l t z)) (hp : v.plain = true) (hc : v.cells = [v]) (ho : o < l.length) (hk : Ok (kk (h.put i (.vec (l.set o v) t z))) Q) : Ok (stE 1 (.ptr i o) v h kk) Q := by
  rw [stE_vec hg hp (by rw [hc]; rfl) (by rw [hc]; exact setNR_one v l o ho)]; exact hk
theorem newE_eq {ob : AObj} : newE ob h kh = kh (.ptr h.next 0) (h.new ob) := rfl
theorem boxE_eq (hp : v.plain = true) : boxE t v h kh = kh (.ptr h.next 0) (h.new (.cells v.cells t)) := by unfold boxE; rw [hp, cnd_true]
theorem pickE_bool {a b : EV} {x : Bool} : pickE (.bool x) a b k = cnd x (k a) (k b) := rfl
theorem notE_bool {x : Bool} : notE (.bool x) k = cnd x (k (.bool false)) (k (.bool true)) := rfl
theorem ifE_bool {a b : R} {x : Bool} : ifE (.bool x) a b = cnd x a b := rfl
theorem extrE_at (hv : l[o]? = some v) : extrE o (.tuple l) k = k v := by
  show oB k (nthR l o) = _
  rw [nthR_get, hv]; rfl
theorem drawE_eq {kk : Nat → DX → R} : drawE h kk = kk h.next ⟨0, [], [], [], []⟩ := rfl
theorem newS_eq {s : DX} {kk : DX → R} : newS i h s kk = kk (s.new i h.next) := rfl
theorem andE_some {h' : AHeap} : andE (some (v, h')) kh = kh v h' := rfl
theorem ixAE_at {q off ln sz : Nat} {kd : IntKind} (hj : j < ln) : ixAE ln sz (.ptr q off) (.int kd (j : Int)) k = k (.ptr q (off + j * sz)) := by
  show cnd (Nat.ble (Nat.succ j) ln) _ none = _
  rw [Nat.ble_eq_true_of_le hj, cnd_true]; rfl
theorem convE_int {kd kd' : IntKind} {x : Int} : convE kd (.int kd' x) k = k (.int kd (wrapF kd x)) := rfl
theorem negE_int {kd : IntKind} {x : Int} : negE (.int kd x) k = k (.int kd (wrapF kd (0 - x))) := rfl
theorem fieldE_one (hv : l[o]? = some v) : fieldE o false 0 (.agg l) k = k v := by
  show oB k (nthR l o) = _
  rw [nthR_get, hv]; rfl
theorem fieldE_many (hv : cutR l o n = some l') : fieldE o true n (.agg l) k = k (.agg l') := by
  show oB _ (cutR l o n) = _
  rw [hv]; rfl
theorem buildE_at {place : Nat → Option (Nat × Nat)} {z : List EV} {ps : List (Nat × EV)} (hf : fillR place ps z = some l) : buildE place z ps k = k (.agg l) := by
  unfold buildE; rw [hf]; rfl
theorem cutR_all {l : List EV} {n : Nat} (hn : l.length = n) : cutR l 0 n = some l := by
  subst hn; rw [cutR_take (by omega), List.drop_zero, List.take_length]
theorem wi64 {n : Int} (h1 : -9223372036854775808 ≤ n) (h2 : n ≤ 9223372036854775807) : wrapF .i64 n = n := wrapF_i64 h1 (by omega)
end
theorem quoI {b : Int} {T : Tab} {t : Nat} {a : Int} {k : EV → R} (hb : 0 < b) (h1 : 0 ≤ a) (h2 : a < 9223372036854775808) : binE (bin T .quo t) (.int .i64 a) (.int .i64 b) k = k (.int .i64 (a / b)) := by
  obtain ⟨n, rfl⟩ := Int.eq_ofNat_of_zero_le (Int.le_of_lt hb)
  show oB k (cnd (eqB (.ofNat n) 0) none (some (.int .i64 (wrapF .i64 (a.tdiv (.ofNat n)))))) = _
  have : eqB (.ofNat n) 0 = false := by
    show Nat.beq n 0 = false
    cases n with
    | zero => exact absurd hb (by decide)
    | succ n => rfl
  rw [this, cnd_false]
  have e : a.tdiv (.ofNat n) = a / n := Int.tdiv_eq_ediv_of_nonneg h1
  have h3 : a / (n : Int) ≤ a := Int.ediv_le_self _ h1
  have h4 : 0 ≤ a / (n : Int) := Int.ediv_nonneg h1 (by omega)
  rw [e, wrapF_i64 (by omega) (by omega)]; rfl
/-! ### simp looks at what is next alone -/
section
variable {v v' w w' a a' b b' x' : EV} {x y r r' : R} {h h' : AHeap} {k : EV → R} {kh : EV → AHeap → R} {kk : AHeap → R} {kd : DX → R} {kb : Nat → DX → R} {ke : EV → AHeap → DX → R}
@[congr] theorem Ok.c {Q : EV → AHeap → Prop} (e : r = r') : Ok r Q = Ok r' Q := by rw [e]
@[congr] theorem cnd.c {α : Type} {p q : Bool} {x y : α} (e : p = q) : cnd p x y = cnd q x y := by rw [e]
@[congr] theorem oB.c {α β : Type} {k : α → Option β} {p q : Option α} (e : p = q) : oB k p = oB k q := by rw [e]
@[congr] theorem andE.c (e : r = r') : andE r kh = andE r' kh := by rw [e]
@[congr] theorem ld1E.c (e : v = v') : ld1E v h k = ld1E v' h k := by rw [e]
@[congr] theorem ldNE.c {n : Nat} (e : v = v') : ldNE n v h k = ldNE n v' h k := by rw [e]
@[congr] theorem stE.c {n : Nat} (e : a = a') (e' : v = v') : stE n a v h kk = stE n a' v' h kk := by rw [e, e']
@[congr] theorem newE.c {o o' : AObj} (e : o = o') : newE o h kh = newE o' h kh := by rw [e]
@[congr] theorem boxE.c {t : Nat} (e : v = v') : boxE t v h kh = boxE t v' h kh := by rw [e]
@[congr] theorem intE.c {g : IG} {f : EV → EV → Option EV} (e : v = v') (e' : w = w') : intE g f v w k = intE g f v' w' k := by rw [e, e']
@[congr] theorem binE.c {f : EV → EV → Option EV} (e : v = v') (e' : w = w') : binE f v w k = binE f v' w' k := by rw [e, e']
@[congr] theorem pickE.c (e : v = v') : pickE v a b k = pickE v' a b k := by rw [e]
@[congr] theorem notE.c (e : v = v') : notE v k = notE v' k := by rw [e]
@[congr] theorem negE.c (e : v = v') : negE v k = negE v' k := by rw [e]
@[congr] theorem nilE.c (e : v = v') : nilE v k = nilE v' k := by rw [e]
@[congr] theorem offE.c {n : Nat} (e : v = v') : offE n v k = offE n v' k := by rw [e]
@[congr] theorem ixAE.c {n m : Nat} (e : v = v') (e' : w = w') : ixAE n m v w k = ixAE n m v' w' k := by rw [e, e']
@[congr] theorem ixSE.c {n : Nat} (e : v = v') (e' : w = w') : ixSE n v w k = ixSE n v' w' k := by rw [e, e']
@[congr] theorem ixVE.c {n m q : Nat} {g : Bool} (e : v = v') (e' : w = w') : ixVE n m g q v w k = ixVE n m g q v' w' k := by rw [e, e']
@[congr] theorem fieldE.c {n m : Nat} {g : Bool} (e : v = v') : fieldE n g m v k = fieldE n g m v' k := by rw [e]
@[congr] theorem convE.c {c : IntKind} (e : v = v') : convE c v k = convE c v' k := by rw [e]
@[congr] theorem extrE.c {n : Nat} (e : v = v') : extrE n v k = extrE n v' k := by rw [e]
@[congr] theorem lenE.c (e : v = v') : lenE v k = lenE v' k := by rw [e]
@[congr] theorem s2apE.c {n : Nat} (e : v = v') : s2apE n v k = s2apE n v' k := by rw [e]
@[congr] theorem buildE.c {place : Nat → Option (Nat × Nat)} {z : List EV} {ps ps' : List (Nat × EV)} (e : ps = ps') : buildE place z ps k = buildE place z ps' k := by rw [e]
@[congr] theorem sliE.c {n : Nat} {lo lo' hi hi' mx mx' : Option EV} (e : v = v') (e1 : lo = lo') (e2 : hi = hi') (e3 : mx = mx') : sliE n v lo hi mx k = sliE n v' lo' hi' mx' k := by rw [e, e1, e2, e3]
@[congr] theorem sliAE.c {n m : Nat} {lo lo' hi hi' mx mx' : Option EV} (e : v = v') (e1 : lo = lo') (e2 : hi = hi') (e3 : mx = mx') : sliAE n m v lo hi mx k = sliAE n m v' lo' hi' mx' k := by rw [e, e1, e2, e3]
@[congr] theorem ifE.c (e : v = v') : ifE v x y = ifE v' x y := by rw [e]
@[congr] theorem drawE.c (e : h = h') : drawE h kb = drawE h' kb := by rw [e]
@[congr] theorem loadE.c {i b base : Nat} {s : DX} (e : v = v') : loadE i b base v s kd = loadE i b base v' s kd := by rw [e]
@[congr] theorem stoE.c {i b : Nat} {s : DX} (e : v = v') : stoE i b v s kd = stoE i b v' s kd := by rw [e]
@[congr] theorem newS.c {i : Nat} {s s' : DX} (e : s = s') : newS i h s kd = newS i h s' kd := by rw [e]
@[congr] theorem bigE.c {i b : Nat} {s s' : DX} {call : AHeap → R} (e : s = s') : bigE i b s h call ke = bigE i b s' h call ke := by rw [e]
@[congr] theorem rangeE.c {c : Caller} {T : Tab} {g n i : Nat} {tm : Tmps} {ds : List Nat} {k1 : AHeap → List Nat → R} {k2 : Nat → AHeap → List Nat → R} {k3 : AHeap → List Nat → R} (e : v = v') : rangeE c T g n i v tm h ds k1 k2 k3 = rangeE c T g n i v' tm h ds k1 k2 k3 := by rw [e]
@[congr] theorem rangeIn.c {c : Caller} {T : Tab} {g n i l0 : Nat} {tm : Tmps} {ds : List Nat} {k1 : AHeap → List Nat → R} {k2 : Nat → AHeap → List Nat → R} {k3 : AHeap → List Nat → R} (e : v = v') : rangeIn c T g n i l0 v tm h ds k1 k2 k3 = rangeIn c T g n i l0 v' tm h ds k1 k2 k3 := by rw [e]
@[congr] theorem beginE.c {l : Nat} (e : h = h') : beginE l h kk = beginE l h' kk := by rw [e]
end
theorem lds {h : AHeap} {i : Nat} {x : AObj} {l : List EV} (hg : h.get i = some x) (hr : rowOf x = some l) : ∀ (o : Nat) (k : EV → R), ld1E (.ptr i o) h k = oB k l[o]? := by
  intro o k
  cases hv : l[o]? with
  | some v => exact ld1E_at hg hr hv
  | none =>
    show oB _ (readO (h.get i) o 1) = _
    rw [hg]
    have hl : l.length ≤ o := List.getElem?_eq_none_iff.1 hv
    have hc : cutR l o 1 = none := by
      rw [cutR_eq, dropN_eq, List.drop_eq_nil_of_le hl]; rfl
    cases x <;> first | (cases hr; done) | (cases hr; show oB _ (cutR l o 1) = _; rw [hc]; rfl)
theorem ldsN {h : AHeap} {i : Nat} {x : AObj} {l : List EV} (hg : h.get i = some x) (hr : rowOf x = some l) : ∀ (n o : Nat) (k : EV → R), ldNE n (.ptr i o) h k = oB (fun l => k (.agg l)) (cutR l o n) := by
  intro n o k
  show oB _ (readO (h.get i) o n) = _
  rw [hg]
  cases x <;> first | (cases hr; done) | (cases hr; rfl)
/-- What is next. -/
theorem walkE :
    (∀ (i o : Nat) (k : EV → R), nilE (.ptr i o) k = k (.ptr i o)) ∧ (∀ (c i o : Nat) (k : EV → R), offE c (.ptr i o) k = k (.ptr i (o + c))) ∧
    (∀ (o : AObj) (h : AHeap) (k : EV → AHeap → R), newE o h k = k (.ptr h.next 0) (h.new o)) ∧
    (∀ (t : Nat) (c : IntKind) (n : Int) (h : AHeap) (k : EV → AHeap → R), boxE t (.int c n) h k = k (.ptr h.next 0) (h.new (.cells [.int c n] t))) ∧
    (∀ (t : Nat) (l : List EV) (h : AHeap) (k : EV → AHeap → R), boxE t (.agg l) h k = k (.ptr h.next 0) (h.new (.cells l t))) ∧
    (∀ (t i o : Nat) (h : AHeap) (k : EV → AHeap → R), boxE t (.ptr i o) h k = k (.ptr h.next 0) (h.new (.cells [.ptr i o] t))) ∧
    (∀ (t i o n m : Nat) (p : Bool) (h : AHeap) (k : EV → AHeap → R), boxE t (.slice i o n m p) h k = k (.ptr h.next 0) (h.new (.cells [.slice i o n m p] t))) ∧
    (∀ (t : Nat) (h : AHeap) (k : EV → AHeap → R), boxE t .nilslice h k = k (.ptr h.next 0) (h.new (.cells [.nilslice] t))) ∧
    (∀ (x : Bool) (a b : EV) (k : EV → R), pickE (.bool x) a b k = cnd x (k a) (k b)) ∧
    (∀ (x : Bool) (k : EV → R), notE (.bool x) k = cnd x (k (.bool false)) (k (.bool true))) ∧
    (∀ (x : Bool) (a b : R), ifE (.bool x) a b = cnd x a b) ∧
    (∀ (k : EV → R), lenE .nilslice k = k (.int .i64 0)) ∧ (∀ (q off ln rm : Nat) (op : Bool) (k : EV → R), lenE (.slice q off ln rm op) k = k (.int .i64 (ln : Int))) ∧
    (∀ (o : Nat) (l : List EV) (k : EV → R), extrE o (.tuple l) k = oB k l[o]?) ∧
    (∀ (h : AHeap) (k : Nat → DX → R), drawE h k = k h.next ⟨0, [], [], [], []⟩) ∧ (∀ (i : Nat) (h : AHeap) (s : DX) (k : DX → R), newS i h s k = k (s.new i h.next)) ∧
    (∀ (v : EV) (h : AHeap) (k : EV → AHeap → R), andE (some (v, h)) k = k v h) ∧
    (∀ (o : Nat) (l : List EV) (k : EV → R), fieldE o false 0 (.agg l) k = oB k l[o]?) ∧
    (∀ (c c' : IntKind) (n : Int) (k : EV → R), convE c (.int c' n) k = k (.int c (wrapF c n))) ∧
    (∀ (x y : R), cnd true x y = x) ∧ (∀ (x y : R), cnd false x y = y) ∧ (cnd true true false = true) ∧ (cnd false true false = false) ∧ (cnd true false true = false) ∧ (cnd false false true = true) ∧ notB true = false ∧ notB false = true ∧
    (∀ (k : EV → R) (v : EV), oB k (some v) = k v) ∧ (∀ (h : AHeap) (v : EV), resE TT [.v v] h = some (v, h)) ∧ (∀ (h : AHeap) (v w : EV), resE TT [.v v, .v w] h = some (.tuple [v, w], h)) ∧ (∀ (h : AHeap) (v w x : EV), resE TT [.v v, .v w, .v x] h = some (.tuple [v, w, x], h)) ∧
    (∀ (h : AHeap) (k : AHeap → R), unwindF [] h k = k h) ∧ (∀ (p : EV) (r : List EV), (p :: r)[0]? = some p) ∧ (∀ (p : EV) (r : List EV) (n : Nat), (p :: r)[n + 1]? = r[n]?) ∧ (∀ n : Nat, 0 + n = n) ∧ (∀ (k : List EV → R) (l : List EV), oB k (some l) = k l) :=
  ⟨fun _ _ _ => rfl, fun _ _ _ _ => rfl, fun _ _ _ => rfl, fun _ _ _ _ _ => rfl, fun _ _ _ _ => rfl, fun _ _ _ _ _ => rfl, fun _ _ _ _ _ _ _ _ => rfl, fun _ _ _ => rfl, fun _ _ _ _ => rfl, fun _ _ => rfl, fun _ _ _ => rfl,
   fun _ => rfl, fun _ _ _ _ _ _ => rfl, fun o l k => by show oB k (nthR l o) = _; rw [nthR_get], fun _ _ => rfl, fun _ _ _ _ => rfl, fun _ _ _ => rfl, fun o l k => by show oB k (nthR l o) = _; rw [nthR_get], fun _ _ _ _ => rfl,
   fun _ _ => rfl, fun _ _ => rfl, rfl, rfl, rfl, rfl, rfl, rfl, fun _ _ => rfl, fun _ _ => rfl, fun _ _ _ => rfl, fun _ _ _ _ => rfl, fun _ _ => rfl, fun _ _ => rfl, fun _ _ _ => rfl, Nat.zero_add, fun _ _ => rfl⟩
/-- Marks of regions that draw their order. -/
theorem walkD :
    (∀ (s : DX) (i q : Nat), s.ld i q = ⟨s.bg, s.nw, (Nat.shiftLeft 1 i, q) :: s.lds, s.lou, s.st⟩) ∧ (∀ (s : DX) (i q : Nat), s.new i q = ⟨s.bg, (Nat.shiftLeft 1 i, q) :: s.nw, s.lds, s.lou, s.st⟩) ∧
    (∀ (s : DX) (i : Nat), s.big i = ⟨Nat.lor s.bg (Nat.shiftLeft 1 i), s.nw, s.lds, s.lou, s.st⟩) ∧ (∀ (b q : Nat), otherThan b q [] = true) ∧ (∀ (b q : Nat), clearOf b q [] = true) :=
  ⟨fun _ _ _ => rfl, fun _ _ _ => rfl, fun _ _ => rfl, fun _ _ => rfl, fun _ _ => rfl⟩
/-- Numbers. -/
theorem walkI :
    (∀ (g : IG) (f : EV → EV → Option EV) (x y : Int) (k : EV → R), intE g f (.int .i64 x) (.int .i64 y) k = k (g .i64 x y)) ∧
    (∀ (c : IntKind) (a b : Int), gLss c a b = .bool (decide (a < b))) ∧ (∀ (c : IntKind) (a b : Int), gLeq c a b = .bool (decide (a ≤ b))) ∧
    (∀ (c : IntKind) (a b : Int), gGtr c a b = .bool (decide (b < a))) ∧ (∀ (c : IntKind) (a b : Int), gGeq c a b = .bool (decide (b ≤ a))) ∧
    (∀ (c : IntKind) (a b : Int), gEql c a b = .bool (decide (a = b))) ∧ (∀ (c : IntKind) (a b : Int), gNeq c a b = .bool (decide (¬ a = b))) ∧
    (∀ (c : IntKind) (a b : Int), gAdd c a b = .int c (wrapF c (a + b))) ∧ (∀ (c : IntKind) (a b : Int), gSub c a b = .int c (wrapF c (a - b))) ∧ (∀ (c : IntKind) (a b : Int), gMul c a b = .int c (wrapF c (a * b))) ∧
    (∀ (b w : Bool), wantE (.bool b) w = cnd b w (notB w)) ∧ (∀ w, wantE (.tuple []) w = false) :=
  ⟨fun _ _ _ _ _ => rfl, fun _ a b => by rw [gLss_eq, ltI_dec], fun _ a b => by rw [gLeq_eq, ltI_dec, notB_dec]; congr 1; exact decide_eq_decide.2 (by omega),
   fun _ a b => by rw [gGtr_eq, ltI_dec], fun _ a b => by rw [gGeq_eq, ltI_dec, notB_dec]; congr 1; exact decide_eq_decide.2 (by omega),
   fun _ a b => by rw [gEql_eq, eqI_dec], fun _ a b => by rw [gNeq_eq, eqI_dec, notB_dec],
   fun _ a b => by rw [gAdd_eq, addI_plus], fun _ a b => by unfold gSub; rw [subI_minus], fun _ a b => rfl, fun _ _ => rfl, fun _ => rfl⟩
end Go.Ev

namespace Go.Ev
variable {h h' : AHeap}

/-- A row that grows: nothing yet, or a block of its own. -/
def RowAt (h : AHeap) (s : EV) (q : Nat) (e : TypeId) (sz len : Nat) (l : List EV) : Prop :=
  (len = 0 ∧ l = [] ∧ s = .nilslice) ∨ (0 < len ∧ s = .slice q 0 len len true ∧ h.get q = some (.vec l e sz) ∧ l.length = len * sz)
theorem RowAt.nil (h : AHeap) (q : Nat) (e : TypeId) (sz : Nat) : RowAt h .nilslice q e sz 0 [] := .inl ⟨rfl, rfl, rfl⟩
theorem RowAt.frame {s : EV} {q : Nat} {e : TypeId} {sz len : Nat} {l : List EV} (r : RowAt h s q e sz len l) (g : 0 < len → h'.get q = h.get q) : RowAt h' s q e sz len l := by
  rcases r with r | ⟨a, b, c, d⟩
  · exact .inl r
  · exact .inr ⟨a, b, by rw [g a]; exact c, d⟩
theorem RowAt.len {s : EV} {q : Nat} {e : TypeId} {sz len : Nat} {l : List EV} (r : RowAt h s q e sz len l) : lenOf s = some len := by
  rcases r with ⟨rfl, _, rfl⟩ | ⟨_, rfl, _⟩ <;> rfl
theorem RowAt.lenE {s : EV} {q : Nat} {e : TypeId} {sz len : Nat} {l : List EV} (r : RowAt h s q e sz len l) (k : EV → R) : Ev.lenE s k = k (.int .i64 (len : Int)) := by
  unfold Ev.lenE; rw [r.len]; rfl
theorem RowAt.plain {s : EV} {q : Nat} {e : TypeId} {sz len : Nat} {l : List EV} (r : RowAt h s q e sz len l) : s.plain = true ∧ s.cells = [s] := by
  rcases r with ⟨rfl, _, rfl⟩ | ⟨_, rfl, _⟩ <;> exact ⟨rfl, rfl⟩
theorem RowAt.size {s : EV} {q : Nat} {e : TypeId} {sz len : Nat} {l : List EV} (r : RowAt h s q e sz len l) : l.length = len * sz := by
  rcases r with ⟨rfl, rfl, _⟩ | ⟨_, _, _, d⟩
  · rw [Nat.zero_mul]; rfl
  · exact d
/-- Cell j of a row of cells. -/
theorem RowAt.ix {s : EV} {q : Nat} {e : TypeId} {sz len : Nat} {l : List EV} (r : RowAt h s q e sz len l) {j : Nat} (hj : j < len) (kd : IntKind) (k : EV → R) : ixSE sz s (.int kd (j : Int)) k = k (.ptr q (j * sz)) := by
  rcases r with ⟨rfl, _, _⟩ | ⟨_, rfl, _, _⟩
  · omega
  · rw [ixSE_n hj, Nat.zero_add]
theorem RowAt.block {s : EV} {q : Nat} {e : TypeId} {sz len : Nat} {l : List EV} (r : RowAt h s q e sz len l) (hl : 0 < len) : h.get q = some (.vec l e sz) := by
  rcases r with ⟨rfl, _, _⟩ | ⟨_, _, c, _⟩
  · omega
  · exact c
theorem RowAt.slice {s : EV} {q : Nat} {e : TypeId} {sz len : Nat} {l : List EV} (r : RowAt h s q e sz len l) (hl : 0 < len) : s = .slice q 0 len len true := by
  rcases r with ⟨rfl, _, _⟩ | ⟨_, c, _⟩
  · omega
  · exact c

theorem append_row {s x : EV} {q : Nat} {e : TypeId} {sz len n : Nat} {l new : List EV} (r : RowAt h s q e sz len l) (hx : lenOf x = some n) (hn : 0 < n) (hn' : n ≤ 65536) (hl : len ≤ 65536) (hc : cellsF h sz n x = some new) (hs : new.length = n * sz) :
    ∃ h', appendF e sz s x h = some (.slice h.next 0 (len + n) (len + n) true, h') ∧ RowAt h' (.slice h.next 0 (len + n) (len + n) true) h.next e sz (len + n) (l ++ new) ∧ h'.next = h.next + 1 ∧ Chg (fun i => 0 < len ∧ i = q) h h' := by
  have e0 : Nat.beq n 0 = false := by cases n with | zero => omega | succ n => rfl
  rcases r with ⟨rfl, rfl, rfl⟩ | ⟨hp, rfl, hq, hlen⟩
  · refine ⟨h.new (.vec new e sz), ?_, .inr ⟨by omega, rfl, ?_, by rw [List.nil_append, Nat.zero_add]; exact hs⟩, rfl, Chg.new _ _⟩
    · unfold appendF
      simp only [hx, oB_s, e0, cnd_false, hc, Nat.ble_eq_true_of_le hn', cnd_true, Nat.zero_add]
    · rw [get_new_same]; rfl
  · have hs2 : cellsF h sz len (.slice q 0 len len true) = some l := by
      show cnd (Nat.beq len 0) (some []) (readF h q 0 (Nat.mul len sz)) = _
      have : Nat.beq len 0 = false := by cases len with | zero => omega | succ n => rfl
      rw [this, cnd_false]
      unfold readF onRow
      rw [hq]
      exact cutR_all hlen
    refine ⟨(h.del q).new (.vec (l ++ new) e sz), ?_, .inr ⟨by omega, rfl, ?_, by rw [List.length_append, hlen, hs, Nat.add_mul]⟩, rfl, ?_⟩
    · unfold appendF
      simp only [hx, oB_s, e0, cnd_false, hc, hs2, hq, Nat.ble_eq_true_of_le hn', Nat.ble_eq_true_of_le hl, cnd_true]
      rw [show Nat.beq 0 0 = true from rfl, cnd_true, Nat.beq_refl, cnd_true, len_length, hlen, show Nat.beq (len * sz) (Nat.mul len sz) = true from Nat.beq_refl _, cnd_true, Nat.beq_refl, cnd_true, Nat.beq_refl, cnd_true, appR_eq]
      rfl
    · rw [show h.next = (h.del q).next from rfl, get_new_same]
    · exact (Chg.del h (.inl ⟨hp, rfl⟩)).trans (Chg.new _ _)

theorem buildSlice1 {z : List EV} {e : TypeId} {sz : Nat} {v : EV} (hp : v.plain = true) (hz : z.length = sz) (hv : v.cells.length = sz) (hs : sz ≤ 65536) : buildSliceE z e sz 1 [(0, v)] h = some (.slice h.next 0 1 1 false, h.new (.cells v.cells e)) := by
  unfold buildSliceE buildSliceM
  simp only
  rw [Nat.ble_eq_true_of_le (show Nat.mul 1 sz ≤ 65536 by show 1 * sz ≤ 65536; omega), cnd_true]
  have hf : fillR (evenP sz) [(0, v)] (rep z 1) = some v.cells := by
    show oB (pairK fun off size => cnd v.plain (cnd (Nat.beq (lenR v.cells) size) (oB _ (laidR (rep z 1) off v.cells)) none) none) (evenP sz 0) = _
    show cnd v.plain (cnd (Nat.beq (lenR v.cells) sz) (oB _ (laidR (rep z 1) (Nat.mul 0 sz) v.cells)) none) none = _
    rw [hp, cnd_true, len_length, hv, Nat.beq_refl, cnd_true]
    have : rep z 1 = z := by show z ++ [] = z; rw [List.append_nil]
    rw [this, show Nat.mul 0 sz = 0 from Nat.zero_mul sz, laidR_all (by rw [hz, hv])]
    rfl
  rw [hf]; rfl
theorem cells_slice1 {b : Nat} {e : TypeId} {sz : Nat} {l : List EV} (hb : h.get b = some (.cells l e)) (hl : l.length = sz) : cellsF h sz 1 (.slice b 0 1 1 false) = some l := by
  show cnd (Nat.beq 1 0) (some []) (readF h b 0 (Nat.mul 1 sz)) = _
  rw [show Nat.beq 1 0 = false from rfl, cnd_false]
  unfold readF onRow
  rw [hb]
  exact cutR_all (by rw [hl]; show sz = 1 * sz; omega)
/-- One more behind a row. -/
theorem append_one {s v : EV} {q : Nat} {e : TypeId} {sz len : Nat} {l z : List EV} {k : EV → AHeap → R} {Q : EV → AHeap → Prop} (r : RowAt h s q e sz len l) (hb : HB h) (hp : v.plain = true) (hz : z.length = sz) (hv : v.cells.length = sz) (hs : sz ≤ 65536) (hl : len ≤ 65535)
    (hk : ∀ h', RowAt h' (.slice (h.next + 1) 0 (len + 1) (len + 1) true) (h.next + 1) e sz (len + 1) (l ++ v.cells) → h'.next = h.next + 2 → Chg (fun i => 0 < len ∧ i = q) h h' → Ok (k (.slice (h.next + 1) 0 (len + 1) (len + 1) true) h') Q) :
    Ok (andE (buildSliceE z e sz 1 [(0, v)] h) fun w h => andE (appendF e sz s w h) k) Q := by
  rw [buildSlice1 hp hz hv hs, andE_some]
  have r1 : RowAt (h.new (.cells v.cells e)) s q e sz len l := r.frame fun hl => get_new_lt _ (hb q _ (r.block hl))
  obtain ⟨h', e1, r2, n2, c2⟩ := append_row (n := 1) (x := .slice h.next 0 1 1 false) r1 rfl (by omega) (by omega) (by omega) (cells_slice1 (get_new_same _ _) hv) (by rw [hv]; omega)
  rw [e1, andE_some]
  exact hk h' r2 n2 ((Chg.new h _).trans c2)
end Go.Ev
