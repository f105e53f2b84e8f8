import Derived.Test.YtpkcfamminlmaaaGreatEvFive
set_option linter.unusedVariables false
set_option linter.unusedSimpArgs false
set_option linter.unusedSectionVars false
namespace Go.Ev
noncomputable section
structure Memo where
 args : List EV
 next : Nat
 pre : List (Nat × AObj)
 v : EV
 next' : Nat
 mw' : Nat
 post : List (Nat × Option AObj)
def putMany (l : List (Nat × AObj)) (t : Tr AObj) : Tr AObj:=@List.rec (Nat × AObj) (fun _=>Tr AObj) t (fun x _ ih=>@Prod.rec Nat AObj (fun _=>Tr AObj) (fun i o=>setP (pathOf i) (some o) ih) x) l
def putPost (l : List (Nat × Option AObj)) (t : Tr AObj) : Tr AObj:=@List.rec (Nat × Option AObj) (fun _=>Tr AObj) t (fun x _ ih=>@Prod.rec Nat (Option AObj) (fun _=>Tr AObj) (fun i o=>setP (pathOf i) o ih) x) l
def Memo.heap (m : Memo) : AHeap:=⟨putMany m.pre .nil,m.next,m.next⟩
def hget (h : AHeap) (i : Nat) : Option AObj:=getP (pathOf i) h.t
def isObj (x : Option AObj) (o : AObj) : Bool:=@Option.rec AObj (fun _=>Bool) false (fun a=>eqObj a o) x
def allAt (l : List (Nat × AObj)) (h : AHeap) : Bool:=@List.rec (Nat × AObj) (fun _=>Bool) true (fun x _ ih=>@Prod.rec Nat AObj (fun _=>Bool) (fun i o=>cnd (isObj (hget h i) o) ih false) x) l
def Memo.after (m : Memo) (h : AHeap) : AHeap:=⟨putPost m.post h.t,m.next',cnd (Nat.ble h.mw m.mw') h.mw m.mw'⟩
def Memo.fits (m : Memo) (args : List EV) (h : AHeap) : Bool:=cnd (eqVs args m.args) (cnd (Nat.beq h.next m.next) (allAt m.pre h) false) false
end
end Go.Ev

namespace Go.Ev
theorem tmp_putS (tm : Tmps) (j i : Nat) (v : EV) : tmp (tm.put j (some v)) i = if j = i then v else tmp tm i:=by
 unfold tmp; rw [Tr.get_put]; by_cases h : j = i <;> simp [h]
theorem gO_tmp {k : Tmps->Option EV} {i : Nat} (h : k = getP (pathOf i)) (tm : Tmps) : gO k tm = tmp tm i:=by
 subst h; exact getE_eq tm i
theorem pO_put {p : PF} {i : Nat} (h : p = setP (pathOf i)) (v : Option EV) (tm : Tmps) : p v tm = tm.put i v:=by
 subst h; exact setP_eq tm i v
noncomputable def wantE (v : EV) (w : Bool) : Bool:=match v with | .bool b=>cnd b w (notB w) | _=>false
theorem wantG_tmp {k : Tmps->Option EV} {i : Nat} (h : k = getP (pathOf i)) (w : Bool) (tm : Tmps) : wantG k w tm = wantE (tmp tm i) w:=by
 subst h
 unfold wantG wantE tmp
 rw [getP_eq]
 cases tm.get i with
 | none=>rfl
 | some v=>cases v <;> rfl
abbrev I (n : Int) : EV:=.int .i64 n
abbrev N (n : Nat) : EV:=.int .i64 (.ofNat n)
theorem ltI_dec (a b : Int) : ltI a b = decide (a < b):=by
 rw [ltI_eq]
 cases a <;> cases b <;> simp only [ltB]
 ·rename_i a b; rw [Bool.eq_iff_iff,decide_eq_true_iff]; simp [Nat.ble_eq]; omega
 ·rename_i a b; symm; rw [decide_eq_false_iff_not]; simp only [Int.ofNat_eq_natCast]; omega
 ·rename_i a b; symm; rw [decide_eq_true_iff]; simp only [Int.ofNat_eq_natCast]; omega
 ·rename_i a b; rw [Bool.eq_iff_iff,decide_eq_true_iff]; simp [Nat.ble_eq]; omega
theorem eqI_dec (a b : Int) : eqI a b = decide (a = b):=by
 rw [eqI_eq]
 cases a <;> cases b <;> simp only [eqB]
 ·rw [Bool.eq_iff_iff,decide_eq_true_iff]; simp [Nat.beq_eq]; omega
 ·simp
 ·simp
 ·rw [Bool.eq_iff_iff,decide_eq_true_iff]; simp [Nat.beq_eq]
theorem notB_dec (p : Prop) [Decidable p] : notB (decide p) = decide (¬ p):=by by_cases h : p <;> simp [h,notB]
theorem addI_plus (a b : Int) : addI a b = a + b:=addI_eq a b
theorem subI_minus (a b : Int) : subI a b = a - b:=subI_eq a b
theorem wrapF_i64 {n : Int} (h1 : -9223372036854775808<=n) (h2 : n < 9223372036854775808) : wrapF .i64 n = n:=by
 unfold wrapF
 split
 ·rename_i m
  have : Nat.ble (Nat.succ m) (lid .i64) = true:=Nat.ble_eq_true_of_le (show m + 1<=9223372036854775808 by simp only [Int.ofNat_eq_natCast] at h2; omega)
  rw [this,cnd_true]
 ·rename_i m
  have : Nat.ble (Nat.succ m) (floor .i64) = true:=Nat.ble_eq_true_of_le (show m + 1<=9223372036854775808 by simp only [Int.negSucc_eq] at h1; omega)
  rw [this,cnd_true]
theorem get_new_same (h : AHeap) (o : AObj) : (h.new o).get h.next = some o:=by rw [AHeap.get_new,if_pos rfl]
theorem get_new_lt {h : AHeap} (o : AObj) {i : Nat} (hi : i < h.next) : (h.new o).get i = h.get i:=by rw [AHeap.get_new,if_neg (by omega)]
theorem get_put_same (h : AHeap) (i : Nat) (o : AObj) : (h.put i o).get i = some o:=by rw [AHeap.get_put,if_pos rfl]
theorem get_put_ne {h : AHeap} {i j : Nat} (o : AObj) (hi : i ≠ j) : (h.put i o).get j = h.get j:=by rw [AHeap.get_put,if_neg hi]
theorem get_del_ne {h : AHeap} {i j : Nat} (hi : i ≠ j) : (h.del i).get j = h.get j:=by rw [AHeap.get_del,if_neg hi]
theorem cnd_dec {α : Type} (p : Prop) [Decidable p] (x y : α) : cnd (decide p) x y = if p then x else y:=by by_cases h : p <;> simp [h]
end Go.Ev


namespace Go.Ev
theorem takeN_take {l : List EV} {n : Nat} (h : n<=l.length) : takeN l n = some (l.take n):=by
 induction l generalizing n with
 | nil=>
  have : n = 0:=by simpa using h
  subst this; rfl
 | cons a r ih=>
  cases n with
  | zero=>rfl
  | succ n=>
   simp only [takeN]
   rw [show Nat.beq (n + 1) 0 = false from rfl,cnd_false,Nat.pred_succ,ih (by simpa using h)]
   rfl
theorem cutR_take {l : List EV} {off n : Nat} (h : off + n<=l.length) : cutR l off n = some ((l.drop off).take n):=by
 rw [cutR_eq,dropN_eq,takeN_take (by rw [List.length_drop]; omega)]
theorem nthR_get : ∀ (l : List EV) (n : Nat),nthR l n = l[n]?
 | [],n=>rfl
 | a :: r,0=>rfl
 | a :: r,n + 1=>by
  have e : nthR (a :: r) (n + 1) = nthR r n:=rfl
  rw [e,nthR_get r n]; simp
theorem setNR_one (v : EV) : ∀ (l : List EV) (n : Nat),n < l.length->laidR l n [v] = some (l.set n v)
 | [],n,h=>by simp at h
 | a :: r,n,h=>by
  rw [laidR_eq]
  cases n with
  | zero=>cases r <;> rfl
  | succ n=>
   have e : spliceN (a :: r) (n + 1) [v] = (match spliceN r n [v] with | some x=>some (a :: x) | none=>none):=rfl
   rw [e,<-laidR_eq,setNR_one v r n (by simpa using h)]
   rfl
theorem len_length (l : List EV) : lenR l = l.length:=by rw [lenR_eq,len_eq]
theorem laidR_all {l vs : List EV} (h : l.length = vs.length) : laidR l 0 vs = some vs:=by
 unfold laidR
 rw [len_length,len_length,h,show Nat.beq 0 0 = true from rfl,cnd_true,show Nat.beq vs.length vs.length = true from Nat.beq_refl _,cnd_true]
section
variable {e a x : EF} {k : KF} {tm : Tmps} {h h' : AHeap} {ds : List Nat} {i off n : Nat} {l : List EV} {v : EV}
end
noncomputable section
def readO (x : Option AObj) (off n : Nat) : Option (List EV):=onRow (fun l o=>cutR l o n) off x
def intE (g : IG) (f : EV->EV->Option EV) (x y : EV) (k : EV->R) : R:=
 match x,y with
 | .int c x,.int c' y=>cnd (Nat.beq (kcode c) (kcode c')) (k (g c x y)) none
 | x,y=>oB k (f x y)
def ld1E (x : EV) (h : AHeap) (k : EV->R) : R:=onPtr (fun i off=>oB (fun l=>match l with | [v]=>k v | _=>none) (readO (h.get i) off 1)) x
def ldNE (n : Nat) (x : EV) (h : AHeap) (k : EV->R) : R:=onPtr (fun i off=>oB (fun l=>k (.agg l)) (readO (h.get i) off n)) x
def stE (n : Nat) (a v : EV) (h : AHeap) (k : AHeap->R) : R:=onPtr (fun i off=>cnd v.plain (cnd (Nat.beq (lenR v.cells) n) (turnRow h i (fun l=>laidR l off v.cells) k) none) none) a
def ixSE (s : Nat) (x ix : EV) (k : EV->R) : R:=onIx (fun j=>match x with | .slice i off len _ _=>cnd (Nat.ble (Nat.succ j) len) (k (.ptr i (Nat.add off (Nat.mul j s)))) none | _=>none) ix
end
section
variable {e a b x ix : EF} {k : KF} {c1 c2 : CF} {tm : Tmps} {h : AHeap} {ds : List Nat} {n m s : Nat} {g : IG} {f : EV->EV->Option EV}
theorem gLss_eq (c : IntKind) (a b : Int) : gLss c a b = .bool (ltI a b):=rfl
theorem gLeq_eq (c : IntKind) (a b : Int) : gLeq c a b = .bool (notB (ltI b a)):=rfl
theorem gGtr_eq (c : IntKind) (a b : Int) : gGtr c a b = .bool (ltI b a):=rfl
theorem gGeq_eq (c : IntKind) (a b : Int) : gGeq c a b = .bool (notB (ltI a b)):=rfl
theorem gEql_eq (c : IntKind) (a b : Int) : gEql c a b = .bool (eqI a b):=rfl
theorem gNeq_eq (c : IntKind) (a b : Int) : gNeq c a b = .bool (notB (eqI a b)):=rfl
theorem gAdd_eq (c : IntKind) (a b : Int) : gAdd c a b = .int c (wrapF c (addI a b)):=rfl
theorem notB_t : notB true = false:=rfl
theorem load1K_eq : load1K e k tm h ds = ld1E (e tm) h (fun v=>k v tm h ds):=by
 unfold load1K ld1E onPtr
 cases e tm <;> try rfl
 rename_i i off
 simp only
 have key : ∀ (L : List EV) (o : Nat),oB (fun v=>k v tm h ds) (nthR L o) = oB (fun l=>match l with | [v]=>k v tm h ds | _=>none) (cutR L o 1):=by
  intro L o
  rw [nthR_get,<-List.head?_drop,cutR_eq,dropN_eq]
  cases L.drop o with
  | nil=>rfl
  | cons b r=>cases r <;> rfl
 unfold readO onRow
 cases h.get i with
 | none=>rfl
 | some x=>
  cases x <;> try rfl
  ·exact key _ _
  ·exact key _ _
  ·rename_i o L r0
   simp only
   cases Nat.ble o off
   ·rfl
   ·exact key _ _
theorem loadNK_eq : loadNK n e k tm h ds = ldNE n (e tm) h (fun v=>k v tm h ds):=by
 unfold loadNK ldNE onPtr
 cases e tm <;> try rfl
 rename_i i off
 simp only
 unfold readO onRow
 cases h.get i with
 | none=>rfl
 | some x=>
  cases x <;> try rfl
  rename_i o L r0
  simp only
  cases Nat.ble o off <;> rfl
theorem turnRow_cells {i : Nat} {l : List EV} {t : TypeId} (hg : h.get i = some (.cells l t)) (F : List EV->Option (List EV)) (k : AHeap->R) : turnRow h i F k = oB (fun l'=>k (h.put i (.cells l' t))) (F l):=by
 unfold turnRow; rw [hg]
theorem ixSliK_eq : ixSliK s e ix k tm h ds = ixSE s (e tm) (ix tm) (fun v=>k v tm h ds):=by
 unfold ixSliK ixSE
 cases e tm <;> rfl
theorem ixSE_at {q off ln rm : Nat} {op : Bool} {j : Nat} (hj : j < ln) (k : EV->R) (c : IntKind) : ixSE s (.slice q off ln rm op) (.int c (.ofNat j)) k = k (.ptr q (off + j * s)):=by
 show cnd (Nat.ble (Nat.succ j) ln) _ none = _
 rw [Nat.ble_eq_true_of_le hj,cnd_true]; rfl
theorem loopC_succ (c : CF->CF) (m : Nat) : loopC c (m + 1) = c (loopC c m):=rfl
end
end Go.Ev

namespace Go.Ev
def Has (h : AHeap) (l : List (Nat × AObj)) : Prop:=∀ x ∈ l,h.get x.1 = some x.2/\x.1 < h.next
theorem Has.nil (h : AHeap) : Has h []:=fun _ hx=>by cases hx
theorem Has.cons {h : AHeap} {i : Nat} {o : AObj} {l : List (Nat × AObj)} (h1 : h.get i = some o) (h2 : i < h.next) (hl : Has h l) : Has h ((i,o) :: l):=fun x hx=>by
 rcases List.mem_cons.1 hx with rfl | hx
 ·exact ⟨h1,h2⟩
 ·exact hl x hx
theorem Has.new {h : AHeap} {l : List (Nat × AObj)} (hl : Has h l) (o : AObj) : Has (h.new o) l:=fun x hx=>
 ⟨by rw [get_new_lt o (hl x hx).2]; exact (hl x hx).1,Nat.lt_succ_of_lt (hl x hx).2⟩
structure Old (n : Nat) (h0 h : AHeap) : Prop where
 get : ∀ i,i < n->h.get i = h0.get i
 next : n<=h.next
theorem Old.refl (h : AHeap) : Old h.next h h:=⟨fun _ _=>rfl,Nat.le_refl _⟩
theorem Old.new {n : Nat} {h0 h : AHeap} (a : Old n h0 h) (o : AObj) : Old n h0 (h.new o):=⟨fun i hi=>by rw [get_new_lt o (Nat.lt_of_lt_of_le hi a.next)]; exact a.get i hi,Nat.le_succ_of_le a.next⟩
theorem Old.put {n : Nat} {h0 h : AHeap} (a : Old n h0 h) {i : Nat} (hi : n<=i) (o : AObj) : Old n h0 (h.put i o):=⟨fun j hj=>by rw [get_put_ne o (by omega)]; exact a.get j hj,a.next⟩
section
variable {T : Tab} {call round : Caller} {K : Nat}
theorem callC_at {disp : Nat->Option FT} {g : Nat} {F : FT} (h : disp g = some F) (d : Nat) (args : List EV) (hp : AHeap) :
 callC T disp K (d + 1) false g args hp = F (callC T disp K d false) (callC T disp K d true) K args hp:=by
 have e : callC T disp K (d + 1) false g args hp = @Option.rec FT (fun _=>FnT) (funF T (callC T disp K d false) (callC T disp K d true) K g) (fun F=>F (callC T disp K d false) (callC T disp K d true) K) (disp g) args hp:=rfl
 rw [e,h]
theorem callC_round (disp : Nat->Option FT) (d l : Nat) (args : List EV) (hp : AHeap) :
 callC T disp K (d + 1) true l args hp = roundF T (callC T disp K d false) (callC T disp K d true) K l args hp:=rfl
theorem funC_at {n : Nat} {c : CF} {args : List EV} (hn : args.length<=n) (h : AHeap) : funC n c args h = c (setArgs args 0 .nil) h []:=by
 unfold funC
 rw [len_length,Nat.ble_eq_true_of_le hn,cnd_true,setArgsR_eq]
variable {g n i t : Nat} {out : Nat->CF} {env : Env} {ret k : CF} {tm : Tmps} {h : AHeap} {ds : List Nat}
end
end Go.Ev

namespace Go.Ev
set_option maxRecDepth 100000
noncomputable section
def pickE (c a b : EV) (k : EV->R) : R:=onB (k a) (k b) c
def binE (f : EV->EV->Option EV) (a b : EV) (k : EV->R) : R:=oB k (f a b)
def notE (v : EV) (k : EV->R) : R:=onB (k (.bool false)) (k (.bool true)) v
def negE (v : EV) (k : EV->R) : R:=match v with | .int c n=>k (.int c (wrapF c (Int.sub 0 n))) | _=>none
def nilE (v : EV) (k : EV->R) : R:=onPtr (fun i o=>k (.ptr i o)) v
def offE (c : Nat) (v : EV) (k : EV->R) : R:=onPtr (fun i o=>k (.ptr i (Nat.add o c))) v
def ixAE (len s : Nat) (v ix : EV) (k : EV->R) : R:=onIx (fun j=>onPtr (fun i off=>cnd (Nat.ble (Nat.succ j) len) (k (.ptr i (Nat.add off (Nat.mul j s)))) none) v) ix
def ixVE (len s : Nat) (agg : Bool) (n : Nat) (v ix : EV) (k : EV->R) : R:=onIx (fun j=>onAgg (fun cs=>cnd (Nat.ble (Nat.succ j) len) (partK agg n cs (Nat.mul j s) k) none) v) ix
def fieldE (off : Nat) (agg : Bool) (n : Nat) (v : EV) (k : EV->R) : R:=onAgg (fun cs=>partK agg n cs off k) v
def convE (c : IntKind) (v : EV) (k : EV->R) : R:=onInt (fun _ n=>k (.int c (wrapF c n))) v
def extrE (ix : Nat) (v : EV) (k : EV->R) : R:=onTup (fun l=>oB k (nthR l ix)) v
def newE (o : AObj) (h : AHeap) (k : EV->AHeap->R) : R:=k (.ptr h.next 0) (h.new o)
def boxE (t : TypeId) (v : EV) (h : AHeap) (k : EV->AHeap->R) : R:=cnd v.plain (k (.ptr h.next 0) (h.new (.cells v.cells t))) none
def lenE (v : EV) (k : EV->R) : R:=oB (fun n=>k (.int .i64 (.ofNat n))) (lenOf v)
def andE (x : R) (k : EV->AHeap->R) : R:=oB (pairK k) x
def callE (c r : Caller) (f : EV) (args : List EV) (h : AHeap) : R:=match f with
 | .func g a cs=>c g (appR a (appR args cs)) h
 | .yld l=>r l args h
 | _=>none
def buildE (place : Nat->Option (Nat × Nat)) (z : List EV) (ps : List (Nat × EV)) (k : EV->R) : R:=oB (fun c=>k (.agg c)) (fillR place ps z)
def s2apE (n : Nat) (v : EV) (k : EV->R) : R:=match v with | .slice i off len _ _=>cnd (Nat.ble n len) (k (.ptr i off)) none | _=>none
def sliE (s : Nat) (v : EV) (lo hi mx : Option EV) (k : EV->R) : R:=oB k (slc v s lo hi mx)
def sliAE (n s : Nat) (v : EV) (lo hi mx : Option EV) (k : EV->R) : R:=onPtr (fun i off=>oB k (slc (.slice i off n n false) s lo hi mx)) v
def makeSliceE (z : List EV) (e : TypeId) (l c : EV) (h : AHeap) : R:=makeSliceM z e (fun _=>l) (fun _=>c) .nil h
def buildSliceE (z : List EV) (e : TypeId) (s n : Nat) (ps : List (Nat × EV)) (h : AHeap) : R:=buildSliceM z e s n (fun _=>ps) .nil h
def makeMapE (h : AHeap) : R:=some (.map h.next,h.new (.map []))
def makeChanE (s : EV) (h : AHeap) : R:=makeChanM (fun _=>s) .nil h
def lookupE (T : Tab) (kt e : TypeId) (ok : Bool) (m ix : EV) (h : AHeap) : R:=lookupM T kt e ok (fun _=>m) (fun _=>ix) .nil h
def mapUpdateE (T : Tab) (kt : TypeId) (m ix x : EV) (h : AHeap) : R:=mapUpdateM T kt (fun _=>m) (fun _=>ix) (fun _=>x) .nil h
def sendE (c x : EV) (h : AHeap) : R:=sendM (fun _=>c) (fun _=>x) .nil h
def recvE (z : EV) (c : EV) (h : AHeap) : R:=recvM z (fun _=>c) .nil h
def lenChE (c : EV) (h : AHeap) : R:=lenChM (fun _=>c) .nil h
def ifE (v : EV) (x y : R) : R:=onB x y v
inductive RV where
 | v (x : EV)
 | c (a : EV) (t : TypeId)
def rvOf (tm : Tmps) : ResultVar->RV
 | .tmp t=>.v (tmp tm t)
 | .cell a t=>.c (tmp tm a) t
def resV (T : Tab) (h : AHeap) : List RV->Option (List EV)
 | []=>some []
 | .v x :: r=>match resV T h r with | some l=>some (x :: l) | none=>none
 | .c a t :: r=>match a,resV T h r,T.size t with
  | .ptr i off,some l,some n=>match readAt h i off n with
   | some cs=>match T.agg t with
    | some true=>some (.agg cs :: l)
    | some false=>(match cs with | [v]=>some (v :: l) | _=>none)
    | none=>none
   | none=>none
  | _,_,_=>none
def resE (T : Tab) (l : List RV) (h : AHeap) : R:=match resV T h l with | some [v]=>some (v,h) | some l=>some (.tuple l,h) | none=>none
def endE (l : Nat) (v : Bool) (st : LoopState) (jump : Option Code) (h : AHeap) : R:=roundEnd l v st jump .nil h []
def beginE (l : Nat) (h : AHeap) (k : AHeap->R) : R:=match h.get l with
 | some (.loop .ready p f n' tm' ps asg body d)=>k (h.put l (.loop .busy p f n' tm' ps asg body d))
 | _=>none
def behE (l : Nat) (r : R) (k : AHeap->R) (ex : Nat->AHeap->R) (ret : AHeap->R) : R:=match r with
 | none=>none
 | some (_,h)=>match h.get l with
  | some (.loop st p f n' tm' ps asg body d)=>match st with
   | .busy=>none
   | _=>match p with
    | none=>k (h.put l (.loop .exhausted p f n' tm' ps asg body d))
    | some (.exit id)=>ex id (h.put l (.loop .exhausted p f n' tm' ps asg body d))
    | some .ret=>ret (h.put l (.loop .exhausted p f n' tm' ps asg body d))
    | some _=>none
  | _=>none
def rangeE (c : Caller) (T : Tab) (g n i : Nat) (f : EV) (tm : Tmps) (h : AHeap) (ds : List Nat) (k : AHeap->List Nat->R) (ex : Nat->AHeap->List Nat->R) (ret : AHeap->List Nat->R) : R:=match f with
 | .func q first captured=>behE (Nat.succ h.next) (c q (first ++ (.yld (Nat.succ h.next) :: captured)) ((h.new (.deferred true)).new (.loop .ready none g n tm (rangeAt T g i).2.1 (rangeAt T g i).2.2.1 (rangeAt T g i).2.2.2 h.next)))
  (fun h'=>k h' (h.next :: ds)) (fun id h'=>ex id h' (h.next :: ds)) (fun h'=>ret h' (h.next :: ds))
 | _=>none
def rangeIn (c : Caller) (T : Tab) (g n i l0 : Nat) (f : EV) (tm : Tmps) (h : AHeap) (ds : List Nat) (k : AHeap->List Nat->R) (ex : Nat->AHeap->List Nat->R) (ret : AHeap->List Nat->R) : R:=match f with
 | .func q first captured=>match h.get l0 with
  | some (.loop _ _ _ _ _ _ _ _ d)=>behE h.next (c q (first ++ (.yld h.next :: captured)) (h.new (.loop .ready none g n tm (rangeAt T g i).2.1 (rangeAt T g i).2.2.1 (rangeAt T g i).2.2.2 d)))
   (fun h'=>k h' ds) (fun id h'=>ex id h' ds) (fun h'=>ret h' ds)
  | _=>none
 | _=>none
def drawE (h : AHeap) (k : Nat->DX->R) : R:=k h.next ⟨0,[],[],[],[]⟩
def loadE (i b base : Nat) (x : EV) (s : DX) (k : DX->R) : R:=onPtr (fun q _=>cnd (loadOk b base q s) (k (s.ld i q)) none) x
def newS (i : Nat) (h : AHeap) (s : DX) (k : DX->R) : R:=k (s.new i h.next)
def stoE (i b : Nat) (x : EV) (s : DX) (k : DX->R) : R:=onPtr (fun q _=>cnd (stoOk b q s) (k (s.sto i q)) none) x
def purE (h : AHeap) (k : AHeap->R) : R:=k ⟨.nil,h.next,h.next⟩
def bigE (i b : Nat) (s : DX) (h : AHeap) (call : AHeap->R) (k : EV->AHeap->DX->R) : R:=cnd (bigOk b s) (andE (call (bigFront b s h)) fun v h'=>bigBack i b s h h' fun s h=>k v h s) none
end
section
variable {e a b x y ix lo' : EF} {k : KF} {c1 c2 : CF} {tm : Tmps} {h : AHeap} {ds : List Nat} {T : Tab} {call round : Caller}
theorem buildK_e (place : Nat->Option (Nat × Nat)) (z : List EV) (ps : Tmps->List (Nat × EV)) : valK (buildV place z ps) k tm h ds = buildE place z (ps tm) (fun v=>k v tm h ds):=by
 unfold valK buildV buildE
 cases fillR place (ps tm) z <;> rfl
theorem negK_e : valK (negV e) k tm h ds = negE (e tm) (fun v=>k v tm h ds):=by
 unfold valK negV negE
 cases e tm <;> rfl
theorem s2apK_e (n : Nat) : valK (s2apV n e) k tm h ds = s2apE n (e tm) (fun v=>k v tm h ds):=by
 unfold valK s2apV s2apE
 cases e tm <;> try rfl
 rename_i i off len a b
 simp only
 cases Nat.ble n len <;> rfl
theorem sliAK_e (n s : Nat) (lo hi mx : Tmps->Option EV) : valK (sliArrV n s e lo hi mx) k tm h ds = sliAE n s (e tm) (lo tm) (hi tm) (mx tm) (fun v=>k v tm h ds):=by
 unfold valK sliArrV sliAE onPtr
 cases e tm <;> rfl
theorem callVK_e (xs : Tmps->List EV) : callVK call round e xs k tm h ds = andE (callE call round (e tm) (xs tm) h) (fun v h=>k v tm h ds):=by
 unfold callVK callE andE
 cases e tm <;> rfl
theorem resF_e (res : List ResultVar) : resF T res tm h = resE T (res.map (rvOf tm)) h:=by
 have hv : ∀ l : List ResultVar,resultsOf T tm h l = resV T h (l.map (rvOf tm)):=by
  intro l
  induction l with
  | nil=>rfl
  | cons a r ih=>
   cases a with
   | tmp t=>simp only [resultsOf,List.map_cons,rvOf,resV,ih]; rfl
   | cell a t=>
    simp only [resultsOf,List.map_cons,rvOf,resV,ih]
    cases tmp tm a <;> rfl
 rw [resF_eq]
 unfold resK resE
 rw [hv]
 rfl
theorem retC_e (res : List ResultVar) : retC T res tm h ds = unwindF ds h (fun h=>resE T (res.map (rvOf tm)) h):=by
 have : resF T res tm = fun h=>resE T (res.map (rvOf tm)) h:=funext fun h=>resF_e res
 show unwindF ds h (resF T res tm) = _
 rw [this]
theorem beginC_e {l : Nat} : beginC l c1 tm h ds = beginE l h (fun h=>c1 tm h ds):=by
 unfold beginC beginE
 cases h.get l with
 | none=>rfl
 | some o=>
  cases o <;> try rfl
theorem roundEnd_e {l : Nat} {v : Bool} {st : LoopState} {j : Option Code} : roundEnd l v st j tm h ds = endE l v st j h:=by
 unfold endE roundEnd
 rfl
theorem rangeS_e {g n i : Nat} {out : Nat->CF} {env : Env} {ret kk : CF} {o : Operand} (ho : (rangeAt T g i).1 = o) : rangeS T call g n none i out env ret kk tm h ds =
 match evalO tm o with
 | some f=>rangeE call T g n i f tm h ds (fun h ds=>kk tm h ds) (fun id h ds=>envC out env id tm h ds) (fun h ds=>ret tm h ds)
 | none=>none:=by
 subst ho
 unfold rangeS rangeC
 cases evalO tm (rangeAt T g i).1 with
 | none=>rfl
 | some f=>
  cases f <;> rfl
theorem rangeS_in {g n i l0 : Nat} {out : Nat->CF} {env : Env} {ret kk : CF} {o : Operand} (ho : (rangeAt T g i).1 = o) : rangeS T call g n (some l0) i out env ret kk tm h ds =
 match evalO tm o with
 | some f=>rangeIn call T g n i l0 f tm h ds (fun h ds=>kk tm h ds) (fun id h ds=>envC out env id tm h ds) (fun h ds=>ret tm h ds)
 | none=>none:=by
 subst ho
 unfold rangeS rangeC
 cases evalO tm (rangeAt T g i).1 with
 | none=>rfl
 | some f=>
  cases f <;> rfl
theorem evalO_tmp' (t : Nat) : evalO tm (.tmp t) = some (tmp tm t):=rfl
theorem evalO_func (f : Nat) : evalO tm (.func f) = some (.func f [] []):=rfl
theorem envC_nil (out : Nat->CF) (id : Nat) : envC out [] id = out id:=rfl
theorem roundF_run {K l : Nat} {args : List EV} {st : LoopState} {p : Option Code} {f n : Nat} {tm tm' : Tmps} {ps : List Tmp} {asg body : Code} {d : Nat} (hg : h.get l = some (.loop st p f n tm ps asg body d)) (hs : setParams ps args n tm = some tm') :
 roundF T call round K l args h = codeK T call round K f n (some l) (fun id=>roundEnd l false .done (some (.exit id))) (roundEnd l false .done (some .ret)) asg []
  (beginC l (codeK T call round K f n (some l) (fun id=>roundEnd l false .done (some (.exit id))) (roundEnd l false .done (some .ret)) body [] (roundEnd l true .ready none))) tm' h []:=by
 unfold roundF
 rw [hg]
 simp only
 rw [hs]
theorem lq {m n d : Nat} (h : n<=d) (e : Nat.ble m n = true) : m<=d:=Nat.le_trans (Nat.le_of_ble_eq_true e) h
end
theorem dd :
 (∀ (e : EF) (p : PF) (c : CF) (tm : Tmps) (h : AHeap) (ds : List Nat),mv e p c tm h ds = c (p (some (e tm)) tm) h ds) /\
 (∀ (e : EF) (k : KF) (tm : Tmps) (h : AHeap) (ds : List Nat),moveK e k tm h ds = k (e tm) tm h ds) /\
 (∀ (p : PF) (c : CF) (v : EV) (tm : Tmps) (h : AHeap) (ds : List Nat),put p c v tm h ds = c (p (some v) tm) h ds) /\
 (∀ (c : CF) (v : EV) (tm : Tmps) (h : AHeap) (ds : List Nat),dropS c v tm h ds = c tm h ds) /\
 (∀ (v : EV) (tm : Tmps),constE v tm = v) /\
 (∀ (c a b : EF) (k : KF) (tm : Tmps) (h : AHeap) (ds : List Nat),pickK c a b k tm h ds = pickE (c tm) (a tm) (b tm) (fun v=>k v tm h ds)) /\
 (∀ (g : IG) (f : EV->EV->Option EV) (a b : EF) (k : KF) (tm : Tmps) (h : AHeap) (ds : List Nat),intK g f a b k tm h ds = intE g f (a tm) (b tm) (fun v=>k v tm h ds)) /\
 (∀ (f : EV->EV->Option EV) (a b : EF) (k : KF) (tm : Tmps) (h : AHeap) (ds : List Nat),binK f a b k tm h ds = binE f (a tm) (b tm) (fun v=>k v tm h ds)) /\
 (∀ (e : EF) (k : KF) (tm : Tmps) (h : AHeap) (ds : List Nat),notK e k tm h ds = notE (e tm) (fun v=>k v tm h ds)) /\
 (∀ (e : EF) (k : KF) (tm : Tmps) (h : AHeap) (ds : List Nat),nilK e k tm h ds = nilE (e tm) (fun v=>k v tm h ds)) /\
 (∀ (c : Nat) (e : EF) (k : KF) (tm : Tmps) (h : AHeap) (ds : List Nat),offK c e k tm h ds = offE c (e tm) (fun v=>k v tm h ds)) /\
 (∀ (len s : Nat) (e ix : EF) (k : KF) (tm : Tmps) (h : AHeap) (ds : List Nat),ixArrK len s e ix k tm h ds = ixAE len s (e tm) (ix tm) (fun v=>k v tm h ds)) /\
 (∀ (s : Nat) (e ix : EF) (k : KF) (tm : Tmps) (h : AHeap) (ds : List Nat),ixSliK s e ix k tm h ds = ixSE s (e tm) (ix tm) (fun v=>k v tm h ds)) /\
 (∀ (len s : Nat) (agg : Bool) (n : Nat) (e ix : EF) (k : KF) (tm : Tmps) (h : AHeap) (ds : List Nat),ixValK len s agg n e ix k tm h ds = ixVE len s agg n (e tm) (ix tm) (fun v=>k v tm h ds)) /\
 (∀ (off : Nat) (agg : Bool) (n : Nat) (e : EF) (k : KF) (tm : Tmps) (h : AHeap) (ds : List Nat),fieldK off agg n e k tm h ds = fieldE off agg n (e tm) (fun v=>k v tm h ds)) /\
 (∀ (c : IntKind) (e : EF) (k : KF) (tm : Tmps) (h : AHeap) (ds : List Nat),convK c e k tm h ds = convE c (e tm) (fun v=>k v tm h ds)) /\
 (∀ (ix : Nat) (e : EF) (k : KF) (tm : Tmps) (h : AHeap) (ds : List Nat),extrK ix e k tm h ds = extrE ix (e tm) (fun v=>k v tm h ds)) /\
 (∀ (e : EF) (k : KF) (tm : Tmps) (h : AHeap) (ds : List Nat),load1K e k tm h ds = ld1E (e tm) h (fun v=>k v tm h ds)) /\
 (∀ (n : Nat) (e : EF) (k : KF) (tm : Tmps) (h : AHeap) (ds : List Nat),loadNK n e k tm h ds = ldNE n (e tm) h (fun v=>k v tm h ds)) /\
 (∀ (n : Nat) (a x : EF) (k : KF) (tm : Tmps) (h : AHeap) (ds : List Nat),storeK n a x k tm h ds = stE n (a tm) (x tm) h (fun h=>k (.tuple []) tm h ds)) /\
 (∀ (z : List EV) (t : TypeId) (k : KF) (tm : Tmps) (h : AHeap) (ds : List Nat),allocK z t k tm h ds = newE (.cells z t) h (fun v h=>k v tm h ds)) /\
 (∀ (t : TypeId) (e : EF) (k : KF) (tm : Tmps) (h : AHeap) (ds : List Nat),boxK t e k tm h ds = boxE t (e tm) h (fun v h=>k v tm h ds)) /\
 (∀ (e : EF) (k : KF) (tm : Tmps) (h : AHeap) (ds : List Nat),lenK e k tm h ds = lenE (e tm) (fun v=>k v tm h ds)) /\
 (∀ (call : Caller) (g : Nat) (xs : Tmps->List EV) (k : KF) (tm : Tmps) (h : AHeap) (ds : List Nat),callK call g xs k tm h ds = andE (call g (xs tm) h) (fun v h=>k v tm h ds)) /\
 (∀ (call round : Caller) (e : EF) (xs : Tmps->List EV) (k : KF) (tm : Tmps) (h : AHeap) (ds : List Nat),callVK call round e xs k tm h ds = andE (callE call round (e tm) (xs tm) h) (fun v h=>k v tm h ds)) /\
 (∀ (e : TypeId) (size : Nat) (s x : EF) (k : KF) (tm : Tmps) (h : AHeap) (ds : List Nat),slowK (appendM e size s x) k tm h ds = andE (appendF e size (s tm) (x tm) h) (fun v h=>k v tm h ds)) /\
 (∀ (T : Tab) (b : Builtin) (ts : Array TypeId) (xs : Tmps->List EV) (k : KF) (tm : Tmps) (h : AHeap) (ds : List Nat),slowK (builtinM T b ts xs) k tm h ds = andE (builtin T b ts (xs tm) h) (fun v h=>k v tm h ds)) /\
 (∀ (z : List EV) (t : TypeId) (l c : EF) (k : KF) (tm : Tmps) (h : AHeap) (ds : List Nat),slowK (makeSliceM z t l c) k tm h ds = andE (makeSliceE z t (l tm) (c tm) h) (fun v h=>k v tm h ds)) /\
 (∀ (z : List EV) (t : TypeId) (s n : Nat) (ps : Tmps->List (Nat × EV)) (k : KF) (tm : Tmps) (h : AHeap) (ds : List Nat),slowK (buildSliceM z t s n ps) k tm h ds = andE (buildSliceE z t s n (ps tm) h) (fun v h=>k v tm h ds)) /\
 (∀ (k : KF) (tm : Tmps) (h : AHeap) (ds : List Nat),slowK makeMapM k tm h ds = andE (makeMapE h) (fun v h=>k v tm h ds)) /\
 (∀ (s : EF) (k : KF) (tm : Tmps) (h : AHeap) (ds : List Nat),slowK (makeChanM s) k tm h ds = andE (makeChanE (s tm) h) (fun v h=>k v tm h ds)) /\
 (∀ (T : Tab) (kt t : TypeId) (ok : Bool) (m ix : EF) (k : KF) (tm : Tmps) (h : AHeap) (ds : List Nat),slowK (lookupM T kt t ok m ix) k tm h ds = andE (lookupE T kt t ok (m tm) (ix tm) h) (fun v h=>k v tm h ds)) /\
 (∀ (T : Tab) (kt : TypeId) (m ix x : EF) (k : KF) (tm : Tmps) (h : AHeap) (ds : List Nat),slowK (mapUpdateM T kt m ix x) k tm h ds = andE (mapUpdateE T kt (m tm) (ix tm) (x tm) h) (fun v h=>k v tm h ds)) /\
 (∀ (c x : EF) (k : KF) (tm : Tmps) (h : AHeap) (ds : List Nat),slowK (sendM c x) k tm h ds = andE (sendE (c tm) (x tm) h) (fun v h=>k v tm h ds)) /\
 (∀ (z : EV) (c : EF) (k : KF) (tm : Tmps) (h : AHeap) (ds : List Nat),slowK (recvM z c) k tm h ds = andE (recvE z (c tm) h) (fun v h=>k v tm h ds)) /\
 (∀ (c : EF) (k : KF) (tm : Tmps) (h : AHeap) (ds : List Nat),slowK (lenChM c) k tm h ds = andE (lenChE (c tm) h) (fun v h=>k v tm h ds)) /\
 (∀ (place : Nat->Option (Nat × Nat)) (z : List EV) (ps : Tmps->List (Nat × EV)) (k : KF) (tm : Tmps) (h : AHeap) (ds : List Nat),valK (buildV place z ps) k tm h ds = buildE place z (ps tm) (fun v=>k v tm h ds)) /\
 (∀ (f : Nat) (xs cs : Tmps->List EV) (k : KF) (tm : Tmps) (h : AHeap) (ds : List Nat),valK (makeFuncV f xs cs) k tm h ds = k (.func f (xs tm) (cs tm)) tm h ds) /\
 (∀ (e : EF) (k : KF) (tm : Tmps) (h : AHeap) (ds : List Nat),valK (negV e) k tm h ds = negE (e tm) (fun v=>k v tm h ds)) /\
 (∀ (n : Nat) (e : EF) (k : KF) (tm : Tmps) (h : AHeap) (ds : List Nat),valK (s2apV n e) k tm h ds = s2apE n (e tm) (fun v=>k v tm h ds)) /\
 (∀ (n s : Nat) (e : EF) (lo hi mx : Tmps->Option EV) (k : KF) (tm : Tmps) (h : AHeap) (ds : List Nat),valK (sliArrV n s e lo hi mx) k tm h ds = sliAE n s (e tm) (lo tm) (hi tm) (mx tm) (fun v=>k v tm h ds)) /\
 (∀ (s : Nat) (e : EF) (lo hi mx : Tmps->Option EV) (k : KF) (tm : Tmps) (h : AHeap) (ds : List Nat),valK (sliV s e lo hi mx) k tm h ds = sliE s (e tm) (lo tm) (hi tm) (mx tm) (fun v=>k v tm h ds)) /\
 (∀ (w : Tmps->Bool) (yes : CF) (no : KF) (tm : Tmps) (h : AHeap) (ds : List Nat),guardK w yes no tm h ds = cnd (w tm) (yes tm h ds) (no (.tuple []) tm h ds)) /\
 (∀ (w : Tmps->Bool) (yes no : CF) (tm : Tmps) (h : AHeap) (ds : List Nat),guard2 w yes no tm h ds = cnd (w tm) (yes tm h ds) (no tm h ds)) /\
 (∀ (e : EF) (a b : CF) (tm : Tmps) (h : AHeap) (ds : List Nat),condC e a b tm h ds = ifE (e tm) (a tm h ds) (b tm h ds)) /\
 (∀ (tm : Tmps) (h : AHeap) (ds : List Nat),badC tm h ds = none) /\
 (∀ (tm : Tmps) (h : AHeap) (ds : List Nat),ret0 tm h ds = unwindF ds h fun h=>some (.tuple [],h)) /\
 (∀ (p : EF) (tm : Tmps) (h : AHeap) (ds : List Nat),ret1 p tm h ds = unwindF ds h fun h=>some (p tm,h)) /\
 (∀ (p q : EF) (tm : Tmps) (h : AHeap) (ds : List Nat),ret2 p q tm h ds = unwindF ds h fun h=>some (.tuple [p tm,q tm],h)) /\
 (∀ (T : Tab) (res : List ResultVar) (tm : Tmps) (h : AHeap) (ds : List Nat),retC T res tm h ds = unwindF ds h (fun h=>resE T (res.map (rvOf tm)) h)) /\
 (∀ (h : AHeap) (k : AHeap->R),unwindF [] h k = k h) /\
 (∀ (l : Nat) (c : CF) (tm : Tmps) (h : AHeap) (ds : List Nat),beginC l c tm h ds = beginE l h (fun h=>c tm h ds)) /\
 (∀ (l : Nat) (v : Bool) (st : LoopState) (j : Option Code) (tm : Tmps) (h : AHeap) (ds : List Nat),roundEnd l v st j tm h ds = endE l v st j h) /\
 (∀ (k : Nat->DX->CF) (tm : Tmps) (h : AHeap) (ds : List Nat),drawS k tm h ds = drawE h (fun base s=>k base s tm h ds)) /\
 (∀ (i b base : Nat) (e : EF) (s : DX) (k : DX->CF) (tm : Tmps) (h : AHeap) (ds : List Nat),dLoad i b base e s k tm h ds = loadE i b base (e tm) s (fun s=>k s tm h ds)) /\
 (∀ (i : Nat) (s : DX) (k : DX->CF) (tm : Tmps) (h : AHeap) (ds : List Nat),dNew i s k tm h ds = newS i h s (fun s=>k s tm h ds)) /\
 (∀ (i b : Nat) (e : EF) (s : DX) (k : DX->CF) (tm : Tmps) (h : AHeap) (ds : List Nat),dSto i b e s k tm h ds = stoE i b (e tm) s (fun s=>k s tm h ds)) /\
 (∀ (o : OC) (k : KF) (tm : Tmps) (h : AHeap) (ds : List Nat),dPur o k tm h ds = o (fun v tm _ ds=>k v tm h ds) tm ⟨.nil,h.next,h.next⟩ ds) /\
 (∀ (i b : Nat) (s : DX) (o : OC) (k : DX->KF) (tm : Tmps) (h : AHeap) (ds : List Nat),dBig i b s o k tm h ds = cnd (bigOk b s) (o (fun v tm h' ds=>bigBack i b s h h' (fun s h=>k s v tm h ds)) tm (bigFront b s h) ds) none) /\
 (∀ (h : AHeap) (k : AHeap->R),purE h k = k ⟨.nil,h.next,h.next⟩) /\
 (∀ (i b : Nat) (s : DX) (h : AHeap) (call : AHeap->R) (k : EV->AHeap->DX->R),bigE i b s h call k = cnd (bigOk b s) (andE (call (bigFront b s h)) fun v h'=>bigBack i b s h h' fun s h=>k v h s) none) /\
 (∀ (tm : Tmps) (t : Nat),rvOf tm (.tmp t) = .v (tmp tm t))/\(∀ (tm : Tmps) (a t : Nat),rvOf tm (.cell a t) = .c (tmp tm a) t) /\
 (∀ (tm : Tmps) (j i : Nat) (v : EV),tmp (tm.put j (some v)) i = if j = i then v else tmp tm i) /\
 (∀ (t : Nat),tmp .nil t = .tuple []) /\
 (∀ (a : EV) (l : List EV) (i : Nat) (t : Tr EV),setArgs (a :: l) i t = setArgs l (i + 1) (t.put i (some a)))/\(∀ (b : Bool) (f g : CF) (tm : Tmps) (h : AHeap) (ds : List Nat),cnd b f g tm h ds = cnd b (f tm h ds) (g tm h ds))/\(∀ (i : Nat) (t : Tr EV),setArgs [] i t = t) /\
 (∀ (tm : Tmps) (a : ResultVar) (l : List ResultVar),List.map (rvOf tm) (a :: l) = rvOf tm a :: List.map (rvOf tm) l)/\(∀ (tm : Tmps),List.map (rvOf tm) [] = []):=
 ⟨fun _ _ _ _ _ _=>rfl,fun _ _ _ _ _=>rfl,fun _ _ _ _ _ _=>rfl,fun _ _ _ _ _=>rfl,fun _ _=>rfl,fun _ _ _ _ _ _ _=>rfl,fun _ _ _ _ _ _ _ _=>rfl,fun _ _ _ _ _ _ _=>rfl,
  fun _ _ _ _ _=>rfl,fun _ _ _ _ _=>rfl,fun _ _ _ _ _ _=>rfl,fun _ _ _ _ _ _ _ _=>rfl,fun _ _ _ _ _ _ _=>ixSliK_eq,fun _ _ _ _ _ _ _ _ _ _=>rfl,fun _ _ _ _ _ _ _ _=>rfl,fun _ _ _ _ _ _=>rfl,fun _ _ _ _ _ _=>rfl,
  fun _ _ _ _ _=>load1K_eq,fun _ _ _ _ _ _=>loadNK_eq,fun _ _ _ _ _ _ _=>rfl,fun _ _ _ _ _ _=>rfl,fun _ _ _ _ _ _=>rfl,fun _ _ _ _ _=>rfl,fun _ _ _ _ _ _ _=>rfl,fun _ _ _ _ _ _ _ _=>callVK_e _,
  fun _ _ _ _ _ _ _ _=>rfl,fun _ _ _ _ _ _ _ _=>rfl,fun _ _ _ _ _ _ _ _=>rfl,fun _ _ _ _ _ _ _ _ _=>rfl,fun _ _ _ _=>rfl,fun _ _ _ _ _=>rfl,fun _ _ _ _ _ _ _ _ _ _=>rfl,fun _ _ _ _ _ _ _ _ _=>rfl,
  fun _ _ _ _ _ _=>rfl,fun _ _ _ _ _ _=>rfl,fun _ _ _ _ _=>rfl,fun _ _ _ _ _ _ _=>buildK_e _ _ _,fun _ _ _ _ _ _ _=>rfl,fun _ _ _ _ _=>negK_e,fun _ _ _ _ _ _=>s2apK_e _,fun _ _ _ _ _ _ _ _ _ _=>sliAK_e _ _ _ _ _,fun _ _ _ _ _ _ _ _ _=>rfl,
  fun _ _ _ _ _ _=>rfl,fun _ _ _ _ _ _=>rfl,fun _ _ _ _ _ _=>rfl,fun _ _ _=>rfl,fun _ _ _=>rfl,fun _ _ _ _=>rfl,fun _ _ _ _ _=>rfl,fun _ _ _ _ _=>retC_e _,fun _ _=>rfl,fun _ _ _ _ _=>beginC_e,fun _ _ _ _ _ _ _=>roundEnd_e,
  fun _ _ _ _=>rfl,fun _ _ _ _ _ _ _ _ _=>rfl,fun _ _ _ _ _ _=>rfl,fun _ _ _ _ _ _ _ _=>rfl,fun _ _ _ _ _=>rfl,fun _ _ _ _ _ _ _ _=>rfl,fun _ _=>rfl,fun _ _ _ _ _ _=>rfl,
  fun _ _=>rfl,fun _ _ _=>rfl,tmp_putS,fun _=>rfl,fun _ _ _ _=>rfl,fun b _ _ _ _ _=>(by cases b <;> rfl),fun _ _=>rfl,fun _ _ _=>rfl,fun _=>rfl⟩
end Go.Ev

namespace Go.Ev
noncomputable section
abbrev VS:=Nat->EV
abbrev CD:=VS->AHeap->R
abbrev upd' (ρ : VS) (d : Nat) (v : EV) : VS:=fun i=>cnd (Nat.beq d i) v (ρ i)
abbrev opndD (ρ : VS) (x : Operand) : Option EV:=match x with
 | .tmp t=>some (ρ t)
 | .const v=>ofV v
 | .global _=>none
 | .func f=>some (.func f [] [])
abbrev opndsD (ρ : VS) (l : List Operand) : Option (List EV):=@List.rec Operand (fun _=>Option (List EV)) (some []) (fun x _ ih=>match opndD ρ x,ih with | some e,some es=>some (e :: es) | _,_=>none) l
abbrev opndsPD (ρ : VS) (l : List (Nat × Operand)) : Option (List (Nat × EV)):=@List.rec (Nat × Operand) (fun _=>Option (List (Nat × EV))) (some []) (fun x _ ih=>match opndD ρ x.2,ih with | some e,some es=>some ((x.1,e) :: es) | _,_=>none) l
abbrev opndMD (ρ : VS) (x : Option Operand) : Option (Option EV):=match x with
 | none=>some none
 | some x=>(match opndD ρ x with | some e=>some (some e) | none=>none)
abbrev opD (T : Tab) (call callV round : Caller) (op : Op) (ρ : VS) (h : AHeap) (k : EV->AHeap->R) : R:=
 match op with
 | .move x=>(match opndD ρ x with | some e=>k e h | none=>none)
 | .assign x=>(match opndD ρ x with | some e=>k e h | none=>none)
 | .pick c a b=>(match opndD ρ c,opndD ρ a,opndD ρ b with | some c,some a,some b=>pickE c a b fun v=>k v h | _,_,_=>none)
 | .binOp op t x y _=>(match opndD ρ x,opndD ρ y with
  | some a,some b=>(match intG op with | some g=>intE g (bin T op t) a b fun v=>k v h | none=>binE (bin T op t) a b fun v=>k v h)
  | _,_=>none)
 | .unOp .not _ x=>(match opndD ρ x with | some e=>notE e fun v=>k v h | none=>none)
 | .nilCheck x=>(match opndD ρ x with | some e=>nilE e fun v=>k v h | none=>none)
 | .fieldAddr s x f=>(match opndD ρ x,T.und s with
  | some e,some (.struct fields)=>(match nthF fields.toList f with
   | some fd=>(match T.size fd.type with | some n=>cnd (Nat.beq n 0) none (offE fd.offset e fun v=>k v h) | none=>none)
   | none=>none)
  | _,_=>none)
 | .indexAddr t x ix=>(match opndD ρ x,opndD ρ ix,T.und t with
  | some e,some ix,some (.array len et)=>(match T.size et with | some s=>ixAE len s e ix fun v=>k v h | none=>none)
  | some e,some ix,some (.slice et)=>(match T.size et with | some s=>ixSE s e ix fun v=>k v h | none=>none)
  | _,_,_=>none)
 | .index t x ix=>(match opndD ρ x,opndD ρ ix,T.und t with
  | some e,some ix',some (.array len et)=>(match T.size et,T.agg et with | some s,some agg=>ixVE len s agg s e ix' fun v=>k v h | _,_=>none)
  | _,_,_=>none)
 | .field t x f=>(match opndD ρ x,T.und t with
  | some e,some (.struct fields)=>(match nthF fields.toList f with
   | some fd=>(match T.agg fd.type with
    | some true=>(match T.size fd.type with | some n=>fieldE fd.offset true n e fun v=>k v h | none=>none)
    | some false=>fieldE fd.offset false 0 e fun v=>k v h
    | none=>none)
   | none=>none)
  | _,_=>none)
 | .convert src dst x=>(match opndD ρ x,T.und src,T.und dst with | some e,some _,some (.int c)=>convE c e fun v=>k v h | _,_,_=>none)
 | .extract x ix=>(match opndD ρ x with | some e=>extrE ix e fun v=>k v h | none=>none)
 | .load t x=>(match opndD ρ x,T.agg t with
  | some e,some true=>(match T.size t with | some n=>ldNE n e h fun v=>k v h | none=>none)
  | some e,some false=>ld1E e h fun v=>k v h
  | _,_=>none)
 | .store t a x=>(match opndD ρ a,opndD ρ x,T.size t with | some a,some x,some n=>stE n a x h fun h=>k (.tuple []) h | _,_,_=>none)
 | .alloc t=>(match T.zero t with | some z=>newE (.cells z t) h k | none=>none)
 | .box t x=>(match opndD ρ x with | some e=>boxE t e h k | none=>none)
 | .call { callee:=.value (.func g),args,.. }=>(match opndsD ρ args.toList with | some xs=>andE (call g xs h) k | none=>none)
 | .call { callee:=.value f,args,.. }=>(match opndD ρ f,opndsD ρ args.toList with | some e,some xs=>andE (callE callV round e xs h) k | _,_=>none)
 | .call { callee:=.builtin .append,args,argTypes }=>(match args.toList,argTypes.toList with
  | [s,x],[t,u]=>(match opndD ρ s,opndD ρ x,T.und u,T.und t with
   | some a,some b,some (.slice _),some (.slice e)=>(match T.size e,T.zero e with
    | some size,some _=>andE (appendF e size a b h) k
    | _,_=>none)
   | _,_,_,_=>none)
  | _,_=>none)
 | .call { callee:=.builtin .len,args,argTypes }=>(match args.toList,argTypes.toList with
  | [x],[t]=>(match opndD ρ x,T.und t with
   | some e,some (.slice _)=>lenE e fun v=>k v h
   | some e,some (.chan ..)=>andE (lenChE e h) k
   | some e,_=>andE (builtin T .len argTypes [e] h) k
   | _,_=>none)
  | _,_=>none)
 | .call { callee:=.builtin b,args,argTypes }=>(match opndsD ρ args.toList with | some xs=>andE (builtin T b argTypes xs h) k | none=>none)
 | .unOp .neg _ x=>(match opndD ρ x with | some e=>negE e fun v=>k v h | none=>none)
 | .build t ps=>(match T.zero t,opndsPD ρ ps.toList,T.und t with
  | some z,some l,some (.struct fields)=>(match placesOf T fields.toList with
   | some ps=>buildE (nthPR ps) z l fun v=>k v h
   | none=>none)
  | some z,some l,some (.array _ e)=>(match T.size e with
   | some s=>buildE (evenP s) z l fun v=>k v h
   | none=>none)
  | _,_,_=>none)
 | .buildSlice t n ps=>(match T.und t,opndsPD ρ ps.toList with
  | some (.slice e),some l=>(match T.size e,T.zero e with
   | some s,some z=>andE (buildSliceE z e s n l h) k
   | _,_=>none)
  | _,_=>none)
 | .makeFunc (.func f) first captured=>(match opndsD ρ first.toList,opndsD ρ captured.toList with | some a,some b=>k (.func f a b) h | _,_=>none)
 | .sliceToArrayPointer t x=>(match opndD ρ x,T.und t with | some e,some (.array n _)=>s2apE n e fun v=>k v h | _,_=>none)
 | .slice t x lo hi mx=>(match opndD ρ x,opndMD ρ lo,opndMD ρ hi,opndMD ρ mx with
  | some e,some lo,some hi,some mx=>(match T.und t with
   | some (.array n et)=>(match T.size et with | some s=>sliAE n s e lo hi mx fun v=>k v h | none=>none)
   | some (.slice et)=>(match T.size et with | some s=>sliE s e lo hi mx fun v=>k v h | none=>none)
   | _=>none)
  | _,_,_,_=>none)
 | .makeSlice t l c=>(match opndD ρ l,opndD ρ c,T.und t with
  | some l,some c,some (.slice e)=>(match T.zero e with | some z=>andE (makeSliceE z e l c h) k | none=>none)
  | _,_,_=>none)
 | .makeMap _ none=>andE (makeMapE h) k
 | .makeChan t s=>(match opndD ρ s,T.und t with
  | some s,some (.chan _ e)=>(match T.size e with | some _=>andE (makeChanE s h) k | none=>none)
  | _,_=>none)
 | .lookup t x ix ok=>(match opndD ρ x,opndD ρ ix,T.und t with | some m,some i,some (.map kt e)=>andE (lookupE T kt e ok m i h) k | _,_,_=>none)
 | .mapUpdate t m ix x=>(match opndD ρ m,opndD ρ ix,opndD ρ x,T.und t with | some m,some i,some x,some (.map kt _)=>andE (mapUpdateE T kt m i x h) k | _,_,_,_=>none)
 | .select cs false=>(match cs.toList with
  | [c]=>(match c.send with
   | some x=>(match opndD ρ c.chan,opndD ρ x,zeroOf T c.elem with | some c,some x,some _=>andE (sendE c x h) k | _,_,_=>none)
   | none=>(match opndD ρ c.chan,zeroOf T c.elem with | some c,some zv=>andE (recvE zv c h) k | _,_=>none))
  | _=>none)
 | _=>none
def okOp (T : Tab) (op : Op) : Bool:=
 match op with
 | .move _ | .assign _ | .pick .. | .binOp .. | .unOp .not .. | .unOp .neg .. | .nilCheck _ | .fieldAddr .. | .indexAddr .. | .field .. | .convert .. | .extract .. | .load .. | .store .. | .alloc _ | .box .. | .call ..=>true
 | .index t x ix=>(match opndE x,opndE ix,T.und t with | some _,some _,some (.array ..)=>true | _,_,_=>false)
 | .build .. | .buildSlice .. | .makeFunc (.func _) .. | .sliceToArrayPointer .. | .slice .. | .makeSlice .. | .makeMap _ none | .makeChan .. | .lookup .. | .mapUpdate .. | .select _ false=>true
 | _=>false
end
theorem opndD_e (tm : Tmps) (x : Operand) : opndD (tmp tm) x = (opndE x).map fun e=>e tm:=by
 cases x with
 | tmp t=>show some (tmp tm t) = some (getE (pathOf t) tm); rw [getE_eq]
 | const v=>show ofV v = Option.map _ (match ofV v with | some c=>some (constE c) | none=>none); cases ofV v <;> rfl
 | global g=>rfl
 | func f=>rfl
theorem opndsD_e (tm : Tmps) (l : List Operand) : opndsD (tmp tm) l = (opndsE l).map fun e=>e tm:=by
 induction l with
 | nil=>rfl
 | cons x r ih=>
  show (match opndD (tmp tm) x,opndsD (tmp tm) r with | some e,some es=>some (e :: es) | _,_=>none) = Option.map _ (match opndE x,opndsE r with | some e,some es=>some (fun tm=>e tm :: es tm) | _,_=>none)
  rw [ih,opndD_e]
  cases opndE x <;> cases opndsE r <;> rfl
theorem opndsPD_e (tm : Tmps) (l : List (Nat × Operand)) : opndsPD (tmp tm) l = (opndsP l).map fun e=>e tm:=by
 induction l with
 | nil=>rfl
 | cons x r ih=>
  show (match opndD (tmp tm) x.2,opndsPD (tmp tm) r with | some e,some es=>some ((x.1,e) :: es) | _,_=>none) = Option.map _ (match opndE x.2,opndsP r with | some e,some es=>some (fun tm=>(x.1,e tm) :: es tm) | _,_=>none)
  rw [ih,opndD_e]
  cases opndE x.2 <;> cases opndsP r <;> rfl
theorem opndMD_e (tm : Tmps) (x : Option Operand) : opndMD (tmp tm) x = (opndM x).map fun e=>e tm:=by
 cases x with
 | none=>rfl
 | some x=>
  show (match opndD (tmp tm) x with | some e=>some (some e) | none=>none) = Option.map _ (match opndE x with | some e=>some (fun tm=>some (e tm)) | none=>none)
  rw [opndD_e]; cases opndE x <;> rfl
theorem opK_D {T : Tab} {call round : Caller} {op : Op} (ok : okOp T op = true) (k : KF) (tm : Tmps) (h : AHeap) : opK T call round op k tm h [] = opD T call call round op (tmp tm) h fun v h=>k v tm h []:=by
 cases op with
 | move x=>simp only [opK,opD,opndD_e]; cases opndE x <;> rfl
 | assign x=>simp only [opK,opD,opndD_e]; cases opndE x <;> rfl
 | pick c a b=>simp only [opK,opD,opndD_e]; cases opndE c <;> cases opndE a <;> cases opndE b <;> rfl
 | binOp op t x y sh=>
  simp only [opK,opD,opndD_e]
  cases opndE x <;> cases opndE y <;> try rfl
  simp only [Option.map_some]
  cases intG op <;> rfl
 | unOp o t x=>
  cases o with
  | not=>simp only [opK,opD,opndD_e]; cases opndE x <;> rfl
  | neg=>simp only [opK,opD,opndD_e]; cases opndE x <;> first | rfl | exact negK_e
  | _=>cases ok
 | nilCheck x=>simp only [opK,opD,opndD_e]; cases opndE x <;> rfl
 | fieldAddr s x f=>
  simp only [opK,opD,opndD_e]
  cases opndE x with
  | none=>rfl
  | some e=>
   cases T.und s with
   | none=>rfl
   | some d=>
    cases d <;> try rfl
    rename_i fs
    simp only [Option.map_some]
    cases nthF fs.toList f with
    | none=>rfl
    | some fd=>
     simp only
     cases T.size fd.type with
     | none=>rfl
     | some n=>simp only; cases Nat.beq n 0 <;> rfl
 | indexAddr t x ix=>
  simp only [opK,opD,opndD_e]
  cases opndE x <;> cases opndE ix <;> try rfl
  simp only [Option.map_some]
  cases T.und t with
  | none=>rfl
  | some d=>
   cases d <;> try rfl
   ·rename_i n et; simp only; cases T.size et <;> rfl
   ·rename_i et; simp only; cases T.size et <;> first | rfl | exact ixSliK_eq
 | index t x ix=>
  simp only [okOp] at ok
  simp only [opK,opD,opndD_e]
  generalize opndE x = ex at ok ⊢
  generalize opndE ix = ei at ok ⊢
  generalize T.und t = u at ok ⊢
  cases ex <;> try (cases ok; done)
  cases ei <;> try (cases ok; done)
  cases u <;> try (cases ok; done)
  rename_i d
  cases d <;> try (cases ok; done)
  rename_i n et
  simp only [Option.map_some]
  cases T.size et <;> cases T.agg et <;> rfl
 | field t x f=>
  simp only [opK,opD,opndD_e]
  cases opndE x with
  | none=>rfl
  | some e=>
   cases T.und t with
   | none=>rfl
   | some d=>
    cases d <;> try rfl
    rename_i fs
    simp only [Option.map_some]
    cases nthF fs.toList f with
    | none=>rfl
    | some fd=>
     simp only
     cases T.agg fd.type with
     | none=>rfl
     | some b=>cases b <;> simp only <;> first | rfl | (cases T.size fd.type <;> rfl)
 | convert s t x=>
  simp only [opK,opD,opndD_e]
  cases opndE x <;> cases T.und s <;> cases T.und t <;> try rfl
  rename_i d
  cases d <;> rfl
 | extract x ix=>simp only [opK,opD,opndD_e]; cases opndE x <;> rfl
 | load t x=>
  simp only [opK,opD,opndD_e]
  cases opndE x with
  | none=>rfl
  | some e=>
   cases T.agg t with
   | none=>rfl
   | some b=>cases b <;> simp only [Option.map_some] <;> first | exact load1K_eq | (cases T.size t <;> first | rfl | exact loadNK_eq)
 | store t a x=>simp only [opK,opD,opndD_e]; cases opndE a <;> cases opndE x <;> cases T.size t <;> rfl
 | alloc t=>simp only [opK,opD]; cases T.zero t <;> rfl
 | box t x=>simp only [opK,opD,opndD_e]; cases opndE x <;> rfl
 | build t ps=>
  simp only [opK,opD,opndsPD_e]
  cases T.zero t <;> cases opndsP ps.toList <;> cases T.und t <;> try rfl
  rename_i d
  cases d <;> try rfl
  ·rename_i n et; simp only [Option.map_some]; cases T.size et <;> first | rfl | exact buildK_e _ _ _
  ·rename_i fs; simp only [Option.map_some]; cases placesOf T fs.toList <;> first | rfl | exact buildK_e _ _ _
 | buildSlice t n ps=>
  simp only [opK,opD,opndsPD_e]
  cases T.und t with
  | none=>rfl
  | some d=>
   cases d <;> try rfl
   rename_i e
   cases opndsP ps.toList <;> try rfl
   simp only [Option.map_some]
   cases T.size e <;> cases T.zero e <;> rfl
 | makeFunc f a b=>
  cases f <;> try (cases ok; done)
  simp only [opK,opD,opndsD_e]
  cases opndsE a.toList <;> cases opndsE b.toList <;> rfl
 | sliceToArrayPointer t x=>
  simp only [opK,opD,opndD_e]
  cases opndE x <;> cases T.und t <;> try rfl
  rename_i d
  cases d <;> first | rfl | exact s2apK_e _
 | slice t x lo hi mx=>
  simp only [opK,opD,opndD_e,opndMD_e]
  cases opndE x <;> cases opndM lo <;> cases opndM hi <;> cases opndM mx <;> try rfl
  simp only [Option.map_some]
  rename_i e1 l1 h1 m1
  cases T.und t with
  | none=>rfl
  | some d=>
   cases d <;> try rfl
   ·rename_i et; simp only; cases T.size et <;> rfl
   ·rename_i n et
    simp only
    cases T.size et with
    | none=>rfl
    | some s=>exact sliAK_e n s l1 h1 m1
 | makeSlice t l c=>
  simp only [opK,opD,opndD_e]
  cases opndE l <;> cases opndE c <;> cases T.und t <;> try rfl
  rename_i d
  cases d <;> try rfl
  rename_i e; simp only [Option.map_some]; cases T.zero e <;> rfl
 | makeMap t n=>cases n <;> first | rfl | cases ok
 | makeChan t s=>
  simp only [opK,opD,opndD_e]
  cases opndE s <;> cases T.und t <;> try rfl
  rename_i d
  cases d <;> try rfl
  rename_i dr e; simp only [Option.map_some]; cases T.size e <;> rfl
 | lookup t x ix b=>
  simp only [opK,opD,opndD_e]
  cases opndE x <;> cases opndE ix <;> cases T.und t <;> try rfl
  rename_i d
  cases d <;> rfl
 | mapUpdate t m ix x=>
  simp only [opK,opD,opndD_e]
  cases opndE m <;> cases opndE ix <;> cases opndE x <;> cases T.und t <;> try rfl
  rename_i d
  cases d <;> rfl
 | select cs b=>
  cases b <;> try (cases ok; done)
  simp only [opK,opD,opndD_e]
  generalize cs.toList = l
  match l with
  | []=>rfl
  | [c]=>
   simp only
   cases c.send with
   | none=>simp only; cases opndE c.chan <;> cases zeroOf T c.elem <;> rfl
   | some x=>simp only [opndD_e]; cases opndE c.chan <;> cases opndE x <;> cases zeroOf T c.elem <;> rfl
  | _ :: _ :: _=>rfl
 | call c=>
  obtain ⟨callee,args,ats⟩:=c
  cases callee with
  | value f=>
   cases f with
   | func g=>simp only [opK,opD,opndsD_e]; cases opndsE args.toList <;> rfl
   | global g=>rfl
   | tmp t=>
    simp only [opK,opD,opndsD_e]
    rw [opndD_e]
    generalize opndE _ = ex
    cases ex <;> cases opndsE args.toList <;> first | rfl | exact callVK_e _
   | const v=>
    simp only [opK,opD,opndsD_e]
    rw [opndD_e]
    generalize opndE _ = ex
    cases ex <;> cases opndsE args.toList <;> first | rfl | exact callVK_e _
  | builtin b=>
   have gen : ∀ b,b ≠ .append->b ≠ .len->opK T call round (.call ⟨.builtin b,args,ats⟩) k tm h [] = opD T call call round (.call ⟨.builtin b,args,ats⟩) (tmp tm) h fun v h=>k v tm h []:=fun b h1 h2=>by
    cases b <;> first | exact absurd rfl h1 | exact absurd rfl h2 | (simp only [opK,opD,opndsD_e]; cases opndsE args.toList <;> rfl)
   by_cases h1 : b = .append
   ·subst h1
    simp only [opK,opD,opndD_e]
    generalize args.toList = l
    generalize ats.toList = r
    match l,r with
    | [],_=>rfl
    | [_],_=>rfl
    | _ :: _ :: _ :: _,_=>rfl
    | [s,x],[]=>rfl
    | [s,x],[_]=>rfl
    | [s,x],_ :: _ :: _ :: _=>rfl
    | [s,x],[t,u]=>
     simp only [opndD_e]
     cases opndE s <;> cases opndE x <;> try rfl
     simp only [Option.map_some]
     cases T.und u with
     | none=>rfl
     | some d=>
      cases d <;> try rfl
      cases T.und t with
      | none=>rfl
      | some d'=>
       cases d' <;> try rfl
       rename_i e
       simp only
       cases T.size e <;> cases T.zero e <;> rfl
   ·by_cases h2 : b = .len
    ·subst h2
     simp only [opK,opD,opndD_e]
     generalize args.toList = l
     generalize hr : ats.toList = r
     match l,r,hr with
     | [],_,_=>rfl
     | _ :: _ :: _,_,_=>rfl
     | [x],[],_=>rfl
     | [x],_ :: _ :: _,_=>rfl
     | [x],[t],hr=>
      simp only [opndD_e]
      cases opndE x <;> try rfl
      simp only [Option.map_some]
      cases T.und t with
      | none=>rfl
      | some d=>cases d <;> rfl
    ·exact gen b h1 h2
  | _=>rfl
 | _=>cases ok
noncomputable section
abbrev updO (n : Nat) (d : Option Tmp) (ρ : VS) (v : EV) : VS:=match d with | none=>ρ | some d=>cnd (Nat.ble (Nat.succ d) n) (upd' ρ d v) ρ
abbrev wantD (ops : List Oper) (ρ : VS) (g : Nat × Bool) : Bool:=match nthO ops g.1 with
 | some o=>(match o.dst with | some d=>wantE (ρ d) g.2 | none=>false)
 | none=>false
abbrev opsD (T : Tab) (call callV round : Caller) (n : Nat) (ops : List Oper) (fin : CD) (l : List Oper) : Mode->CD:=
 @List.rec Oper (fun _=>Mode->CD) (fun _=>fin) (fun o _ ih m=>@Option.rec (Nat × Bool) (fun _=>CD) (fun ρ h=>opD T call callV round o.op ρ h fun v h=>ih none (updO n o.dst ρ v) h)
  (fun g ρ h=>match modeOf m g with
   | some true=>opD T call callV round o.op ρ h fun v h=>ih (keepM ops g true o.dst) (updO n o.dst ρ v) h
   | some false=>ih (keepM ops g false o.dst) (updO n o.dst ρ (.tuple [])) h
   | none=>cnd (wantD ops ρ g) (opD T call callV round o.op ρ h fun v h=>ih (keepM ops g true o.dst) (updO n o.dst ρ v) h) (ih (keepM ops g false o.dst) (updO n o.dst ρ (.tuple [])) h)) o.guard) l
abbrev dOpD (T : Tab) (call callV round : Caller) (op : Op) (i b base : Nat) (s : DX) (ρ : VS) (h : AHeap) (k : DX->EV->AHeap->R) : R:=
 match cls op with
 | .val=>opD T call callV round op ρ h (k s)
 | .load=>(match op with | .load t x=>(match opndD ρ x with | some e=>loadE i b base e s fun s=>opD T call callV round (.load t x) ρ h (k s) | none=>none) | _=>none)
 | .new=>newS i h s fun s=>opD T call callV round op ρ h (k s)
 | .sto=>(match op with | .store t a x=>(match opndD ρ a with | some e=>stoE i b e s fun s=>opD T call callV round (.store t a x) ρ h (k s) | none=>none) | _=>none)
 | .pur=>purE h fun h0=>opD T call callV round op ρ h0 fun v _=>k s v h
 | .big=>cnd (bigOk b s) (opD T call callV round op ρ (bigFront b s h) fun v h'=>bigBack i b s h h' fun s h=>k s v h) none
abbrev dopsD (T : Tab) (call callV round : Caller) (n : Nat) (ops : List Oper) (bs : Tr Nat) (base : Nat) (fin : CD) (l : List Oper) : Nat->Mode->DX->CD:=
 @List.rec Oper (fun _=>Nat->Mode->DX->CD) (fun _ _ _=>fin) (fun o _ ih i m s ρ h=>match bs.get i with
  | none=>none
  | some b=>@Option.rec (Nat × Bool) (fun _=>CD) (fun ρ h=>dOpD T call callV round o.op i b base s ρ h fun s v h=>ih (Nat.succ i) none s (updO n o.dst ρ v) h)
   (fun g ρ h=>match modeOf m g with
    | some true=>dOpD T call callV round o.op i b base s ρ h fun s v h=>ih (Nat.succ i) (keepM ops g true o.dst) s (updO n o.dst ρ v) h
    | some false=>ih (Nat.succ i) (keepM ops g false o.dst) s (updO n o.dst ρ (.tuple [])) h
    | none=>cnd (wantD ops ρ g) (dOpD T call callV round o.op i b base s ρ h fun s v h=>ih (Nat.succ i) (keepM ops g true o.dst) s (updO n o.dst ρ v) h) (ih (Nat.succ i) (keepM ops g false o.dst) s (updO n o.dst ρ (.tuple [])) h)) o.guard ρ h) l
abbrev drawDD (T : Tab) (call callV round : Caller) (n : Nat) (ops : List Oper) (fin : CD) : CD:=fun ρ h=>
 cnd (backOk ops 0) (cnd (tmpsOk ops (befores ops 0 .nil) ops 0 []) (drawE h fun base s=>dopsD T call callV round n ops (befores ops 0 .nil) base fin ops 0 none s ρ h) none) none
abbrev EnvD:=List (Nat × CD)
abbrev envD (env : EnvD) (id : Nat) : CD:=@List.rec (Nat × CD) (fun _=>CD) (fun _ _=>none) (fun p _ ih=>@Prod.rec Nat CD (fun _=>CD) (fun j k=>cnd (Nat.beq j id) k ih) p) env
abbrev loopD (c : CD->CD) (fuel : Nat) : CD:=@Nat.rec (fun _=>CD) (fun _ _=>none) (fun _ ih=>c ih) fuel
abbrev codeD (T : Tab) (call callV round : Caller) (fuel n : Nat) (ret : CD) (c : Code) : EnvD->CD->CD:=
 @Code.rec (fun _=>EnvD->CD->CD) (fun _ k=>k)
  (fun _ ops dr _ k=>cnd dr (cnd (quietReg T ops.toList) (opsD T call callV round n ops.toList k ops.toList none) (drawDD T call callV round n ops.toList k)) (opsD T call callV round n ops.toList k ops.toList none))
  (fun _ _ a b env k=>a env (b env k))
  (fun c _ _ a b env k ρ h=>match opndD ρ c with | some e=>ifE e (a env k ρ h) (b env k ρ h) | none=>none)
  (fun id _ c env k=>c ((id,k) :: env) k)
  (fun _ c env _=>loopD (fun ih=>c env ih) fuel)
  (fun _ _ _ _ _ _ _ _ _ _=>none)
  (fun id env _=>envD env id) (fun _ _ _ _ _ _=>none) (fun _ _ k=>k) (fun _ _ _ _ _=>none) (fun _ _=>ret) (fun _ _ _ _ _=>none) c
def okOps (T : Tab) (l : List Oper) : Bool:=@List.rec Oper (fun _=>Bool) true (fun o _ ih=>cnd (okOp T o.op) ih false) l
def okC (T : Tab) (c : Code) : Bool:=@Code.rec (fun _=>Bool) true (fun _ ops _=>okOps T ops.toList) (fun _ _ a b=>cnd a b false) (fun _ _ _ a b=>cnd a b false) (fun _ _ a=>a) (fun _ a=>a)
 (fun _ _ _ _ _ _=>false) (fun _=>true) (fun _ a=>a) (fun _=>true) (fun _=>true) true (fun _=>true) c
abbrev rvD (ρ : VS) : ResultVar->RV
 | .tmp t=>.v (ρ t)
 | .cell a t=>.c (ρ a) t
abbrev retD (T : Tab) (res : List ResultVar) : CD:=fun ρ h=>match res with
 | [.tmp t]=>some (ρ t,h)
 | []=>some (.tuple [],h)
 | [.tmp s,.tmp t]=>some (.tuple [ρ s,ρ t],h)
 | res=>resE T (res.map (rvD ρ)) h
abbrev argsD (l : List EV) : Nat->VS->VS:=@List.rec EV (fun _=>Nat->VS->VS) (fun _ ρ=>ρ) (fun v _ ih i ρ=>ih (Nat.succ i) (upd' ρ i v)) l
abbrev funD (T : Tab) (call callV round : Caller) (fuel f : Nat) (args : List EV) (h : AHeap) : R:=
 match T.fn f with
 | some { ntmps:=n,body:=some c,results:=res,.. }=>cnd (Nat.ble (lenR args) n) (codeD T call callV round fuel n (retD T res.toList) c [] (retD T res.toList) (argsD args 0 fun _=>.tuple []) h) none
 | _=>none
def okF (T : Tab) (f : Nat) : Bool:=match T.fn f with | some { body:=some c,.. }=>okC T c | _=>false
end
def Eqv (k : CF) (k' : CD) : Prop:=∀ tm h,k tm h [] = k' (tmp tm) h
theorem tmp_upd (tm : Tmps) (d : Nat) (v : EV) : tmp (tm.put d (some v)) = upd' (tmp tm) d v:=funext fun i=>by
 rw [tmp_putS]; show _ = cnd (Nat.beq d i) v (tmp tm i)
 by_cases e : d = i
 ·subst e; rw [if_pos rfl,Nat.beq_refl,cnd_true]
 ·rw [if_neg e,beq_false e,cnd_false]
theorem putK_D {n : Nat} {d : Option Tmp} {k : CF} {k' : CD} (hk : Eqv k k') (v : EV) (tm : Tmps) (h : AHeap) : putK n d k v tm h [] = k' (updO n d (tmp tm) v) h:=by
 cases d with
 | none=>exact hk tm h
 | some d=>
  show cnd (Nat.ble (Nat.succ d) n) (fun (v : EV) tm h ds=>k (setP (pathOf d) (some v) tm) h ds) (fun _=>k) v tm h [] = k' (cnd (Nat.ble (Nat.succ d) n) (upd' (tmp tm) d v) (tmp tm)) h
  cases Nat.ble (Nat.succ d) n with
  | true=>show k (setP (pathOf d) (some v) tm) h [] = k' (upd' (tmp tm) d v) h; rw [hk,setP_eq,tmp_upd]
  | false=>exact hk tm h
theorem wantF_D (ops : List Oper) (g : Nat × Bool) (tm : Tmps) : wantF ops g tm = wantD ops (tmp tm) g:=by
 unfold wantF
 show _ = (match nthO ops g.1 with | some o=>(match o.dst with | some d=>wantE (tmp tm d) g.2 | none=>false) | none=>false)
 cases nthO ops g.1 with
 | none=>rfl
 | some o=>
  simp only
  cases o.dst with
  | none=>rfl
  | some d=>
   simp only
   exact wantG_tmp (k:=getP (pathOf d)) rfl g.2 tm
theorem opsK_D {T : Tab} {call round : Caller} {n : Nat} {ops : List Oper} {fin : CF} {fin' : CD} (hf : Eqv fin fin') : ∀ (l : List Oper) (m : Mode),okOps T l = true->Eqv (opsK T call round n ops fin l m) (opsD T call call round n ops fin' l m)
 | [],m,_=>hf
 | o :: l,m,ok=>by
  obtain ⟨ok1,ok2⟩:=cnd_and' (show cnd (okOp T o.op) (okOps T l) false = true from ok)
  have ih:=fun m=>opsK_D (call:=call) (round:=round) (n:=n) (ops:=ops) hf l m ok2
  have one : ∀ m tm h,opK T call round o.op (putK n o.dst (opsK T call round n ops fin l m)) tm h [] = opD T call call round o.op (tmp tm) h fun v h=>opsD T call call round n ops fin' l m (updO n o.dst (tmp tm) v) h:=fun m tm h=>by
   rw [opK_D ok1]; congr 1; funext v h; exact putK_D (ih m) v tm h
  intro tm h
  obtain ⟨dst,op,ty,ps,af,g⟩:=o
  cases g with
  | none=>exact one none tm h
  | some g=>
   show knownK (modeOf m g) (opK T call round op (putK n dst (opsK T call round n ops fin l (keepM ops g true dst)))) (putK n dst (opsK T call round n ops fin l (keepM ops g false dst)) (.tuple []))
    (guardK (wantF ops g) (opK T call round op (putK n dst (opsK T call round n ops fin l (keepM ops g true dst)))) (putK n dst (opsK T call round n ops fin l (keepM ops g false dst)))) tm h [] =
    (match modeOf m g with
     | some true=>opD T call call round op (tmp tm) h fun v h=>opsD T call call round n ops fin' l (keepM ops g true dst) (updO n dst (tmp tm) v) h
     | some false=>opsD T call call round n ops fin' l (keepM ops g false dst) (updO n dst (tmp tm) (.tuple [])) h
     | none=>cnd (wantD ops (tmp tm) g) (opD T call call round op (tmp tm) h fun v h=>opsD T call call round n ops fin' l (keepM ops g true dst) (updO n dst (tmp tm) v) h) (opsD T call call round n ops fin' l (keepM ops g false dst) (updO n dst (tmp tm) (.tuple [])) h))
   cases modeOf m g with
   | none=>
    show cnd (wantF ops g tm) (opK T call round op _ tm h []) (putK n dst _ (.tuple []) tm h []) = _
    rw [wantF_D,one,putK_D (ih _)]
   | some b=>cases b with
    | true=>exact one _ tm h
    | false=>exact putK_D (ih _) _ tm h
theorem dOp_D {T : Tab} {call round : Caller} {op : Op} (ok : okOp T op = true) {i b base : Nat} {s : DX} {k : DX->KF} {tm : Tmps} {h : AHeap} {k' : DX->EV->AHeap->R} (hk : ∀ s v h,k s v tm h [] = k' s v h) :
 dOp T call round op i b base s k tm h [] = dOpD T call call round op i b base s (tmp tm) h k':=by
 have e : ∀ s (_ : AHeap),(fun (v : EV) (h : AHeap)=>k s v tm h []) = k' s:=fun s _=>funext fun v=>funext fun h=>hk s v h
 unfold dOp dOpD
 cases hc : cls op with
 | val=>simp only; rw [opK_D ok,e s h]
 | new=>simp only; show opK T call round op (k _) tm h [] = _; rw [opK_D ok,e _ h]; rfl
 | load=>
  obtain ⟨t,x,rfl⟩:=cls_load hc
  simp only [opndD_e]
  cases opndE x with
  | none=>rfl
  | some ex=>
   show onPtr (fun q _=>cnd (loadOk b base q s) (opK T call round (.load t x) (k (s.ld i q)) tm h []) none) (ex tm) = onPtr (fun q _=>cnd (loadOk b base q s) (opD T call call round (.load t x) (tmp tm) h (k' (s.ld i q))) none) (ex tm)
   congr 1; funext q o; rw [opK_D ok,e _ h]
 | sto=>
  cases op <;> try rfl
  rename_i t a x
  simp only [opndD_e]
  cases opndE a with
  | none=>rfl
  | some ea=>
   show onPtr (fun q _=>cnd (stoOk b q s) (opK T call round (.store t a x) (k (s.sto i q)) tm h []) none) (ea tm) = onPtr (fun q _=>cnd (stoOk b q s) (opD T call call round (.store t a x) (tmp tm) h (k' (s.sto i q))) none) (ea tm)
   congr 1; funext q o; rw [opK_D ok,e _ h]
 | pur=>
  show opK T call round op (fun v tm _ ds=>k s v tm h ds) tm ⟨.nil,h.next,h.next⟩ [] = opD T call call round op (tmp tm) ⟨.nil,h.next,h.next⟩ fun v _=>k' s v h
  rw [opK_D ok]; congr 1; funext v h'; exact hk s v h
 | big=>
  show cnd (bigOk b s) (opK T call round op (fun v tm h' ds=>bigBack i b s h h' (fun s h=>k s v tm h ds)) tm (bigFront b s h) []) none = cnd (bigOk b s) (opD T call call round op (tmp tm) (bigFront b s h) fun v h'=>bigBack i b s h h' fun s h=>k' s v h) none
  rw [opK_D ok]; congr 2; funext v h'; congr 1; funext s h; exact hk s v h
theorem dopsK_D {T : Tab} {call round : Caller} {n : Nat} {ops : List Oper} {bs : Tr Nat} {base : Nat} {fin : CF} {fin' : CD} (hf : Eqv fin fin') : ∀ (l : List Oper) (i : Nat) (m : Mode) (s : DX),okOps T l = true ->
 Eqv (dopsK T call round n ops bs base fin l i m s) (dopsD T call call round n ops bs base fin' l i m s)
 | [],i,m,s,_=>hf
 | o :: l,i,m,s,ok=>by
  obtain ⟨ok1,ok2⟩:=cnd_and' (show cnd (okOp T o.op) (okOps T l) false = true from ok)
  have ih:=fun i m s=>dopsK_D (call:=call) (round:=round) (n:=n) (ops:=ops) (bs:=bs) (base:=base) hf l i m s ok2
  have one : ∀ b m tm h,dOp T call round o.op i b base s (fun s=>putK n o.dst (dopsK T call round n ops bs base fin l (Nat.succ i) m s)) tm h [] =
   dOpD T call call round o.op i b base s (tmp tm) h fun s v h=>dopsD T call call round n ops bs base fin' l (Nat.succ i) m s (updO n o.dst (tmp tm) v) h:=fun b m tm h=>
   dOp_D ok1 fun s v h=>putK_D (ih _ m s) v tm h
  intro tm h
  obtain ⟨dst,op,ty,ps,af,g⟩:=o
  show bitsK (bs.get i) _ tm h [] = (match bs.get i with | none=>none | some b=>_)
  cases bs.get i with
  | none=>rfl
  | some b=>
   cases g with
   | none=>exact one b none tm h
   | some g=>
    show knownK (modeOf m g) (dOp T call round op i b base s fun s=>putK n dst (dopsK T call round n ops bs base fin l (Nat.succ i) (keepM ops g true dst) s)) (putK n dst (dopsK T call round n ops bs base fin l (Nat.succ i) (keepM ops g false dst) s) (.tuple []))
     (guardK (wantF ops g) (dOp T call round op i b base s fun s=>putK n dst (dopsK T call round n ops bs base fin l (Nat.succ i) (keepM ops g true dst) s)) (putK n dst (dopsK T call round n ops bs base fin l (Nat.succ i) (keepM ops g false dst) s))) tm h [] =
     (match modeOf m g with
      | some true=>dOpD T call call round op i b base s (tmp tm) h fun s v h=>dopsD T call call round n ops bs base fin' l (Nat.succ i) (keepM ops g true dst) s (updO n dst (tmp tm) v) h
      | some false=>dopsD T call call round n ops bs base fin' l (Nat.succ i) (keepM ops g false dst) s (updO n dst (tmp tm) (.tuple [])) h
      | none=>cnd (wantD ops (tmp tm) g) (dOpD T call call round op i b base s (tmp tm) h fun s v h=>dopsD T call call round n ops bs base fin' l (Nat.succ i) (keepM ops g true dst) s (updO n dst (tmp tm) v) h) (dopsD T call call round n ops bs base fin' l (Nat.succ i) (keepM ops g false dst) s (updO n dst (tmp tm) (.tuple [])) h))
    cases modeOf m g with
    | none=>
     show cnd (wantF ops g tm) (dOp T call round op i b base s _ tm h []) (putK n dst _ (.tuple []) tm h []) = _
     rw [wantF_D,one,putK_D (ih _ _ _)]
    | some b'=>cases b' with
     | true=>exact one b _ tm h
     | false=>exact putK_D (ih _ _ _) _ tm h
theorem codeK_D {T : Tab} {call round : Caller} {fuel fn n : Nat} {ret : CF} {ret' : CD} (hr : Eqv ret ret') : ∀ (c : Code) (env : Env) (env' : EnvD) (k : CF) (k' : CD),okC T c = true->(∀ id,Eqv (envC (fun _=>badC) env id) (envD env' id))->Eqv k k' ->
 Eqv (codeK T call round fuel fn n none (fun _=>badC) ret c env k) (codeD T call call round fuel n ret' c env' k')
 | .skip,env,env',k,k',_,he,hk=>hk
 | .region id ops dr,env,env',k,k',ok,he,hk=>by
  have ok : okOps T ops.toList = true:=ok
  cases dr with
  | false=>exact opsK_D hk ops.toList none ok
  | true=>
   show Eqv (cnd (quietReg T ops.toList) (opsK T call round n ops.toList k ops.toList none) (drawD T call round n ops.toList k)) (cnd (quietReg T ops.toList) (opsD T call call round n ops.toList k' ops.toList none) (drawDD T call call round n ops.toList k'))
   cases quietReg T ops.toList with
   | true=>exact opsK_D hk ops.toList none ok
   | false=>
    show Eqv (drawD T call round n ops.toList k) (drawDD T call call round n ops.toList k')
    unfold drawD drawDD
    intro tm h
    cases backOk ops.toList 0 <;> try rfl
    cases tmpsOk ops.toList (befores ops.toList 0 .nil) ops.toList 0 [] <;> try rfl
    exact dopsK_D hk ops.toList 0 none _ ok tm h
 | .seq a b,env,env',k,k',ok,he,hk=>by
  obtain ⟨oa,ob⟩:=cnd_and' (show cnd (okC T a) (okC T b) false = true from ok)
  exact codeK_D hr a env env' _ _ oa he (codeK_D hr b env env' k k' ob he hk)
 | .cond c a b,env,env',k,k',ok,he,hk=>by
  obtain ⟨oa,ob⟩:=cnd_and' (show cnd (okC T a) (okC T b) false = true from ok)
  have ha:=codeK_D (call:=call) (round:=round) (fuel:=fuel) (fn:=fn) (n:=n) hr a env env' _ _ oa he hk
  have hb:=codeK_D (call:=call) (round:=round) (fuel:=fuel) (fn:=fn) (n:=n) hr b env env' _ _ ob he hk
  intro tm h
  show (match opndE c with | some e=>condC e _ _ | none=>badC) tm h [] = (match opndD (tmp tm) c with | some e=>ifE e _ _ | none=>none)
  rw [opndD_e]
  cases opndE c with
  | none=>rfl
  | some e=>
   show onB (codeK T call round fuel fn n none (fun _=>badC) ret a env k tm h []) (codeK T call round fuel fn n none (fun _=>badC) ret b env k tm h []) (e tm) = onB _ _ (e tm)
   rw [ha tm h,hb tm h]
 | .block id c,env,env',k,k',ok,he,hk=>by
  refine codeK_D hr c ((id,k) :: env) ((id,k') :: env') k k' ok (fun j=>?_) hk
  show Eqv (cnd (Nat.beq id j) k _) (cnd (Nat.beq id j) k' _)
  cases Nat.beq id j with
  | true=>exact hk
  | false=>exact he j
 | .loop c,env,env',k,k',ok,he,hk=>by
  show Eqv (loopC (fun ih=>codeK T call round fuel fn n none (fun _=>badC) ret c env ih) fuel) (loopD (fun ih=>codeD T call call round fuel n ret' c env' ih) fuel)
  have : ∀ m,Eqv (loopC (fun ih=>codeK T call round fuel fn n none (fun _=>badC) ret c env ih) m) (loopD (fun ih=>codeD T call call round fuel n ret' c env' ih) m):=fun m=>by
   induction m with
   | zero=>exact fun _ _=>rfl
   | succ m ih=>exact codeK_D hr c env env' _ _ ok he ih
  exact this fuel
 | .rangeFunc ..,_,_,_,_,ok,_,_=>by cases ok
 | .exit id,env,env',k,k',_,he,hk=>he id
 | .scope _,_,_,_,_,_,_,_=>fun _ _=>rfl
 | .label _,_,_,_,_,_,_,hk=>hk
 | .goto _,_,_,_,_,_,_,_=>fun _ _=>rfl
 | .ret,_,_,_,_,_,_,_=>hr
 | .refuse _,_,_,_,_,_,_,_=>fun _ _=>rfl
theorem retC_D (T : Tab) (res : List ResultVar) : Eqv (retC T res) (retD T res):=fun tm h=>by
 show resF T res tm h = _
 have gen : resF T res tm h = resE T (res.map (rvD (tmp tm))) h:=by
  rw [resF_e]
  have : rvOf tm = rvD (tmp tm):=funext fun x=>by cases x <;> rfl
  rw [this]
 unfold retD
 split
 ·simp only [resF,getE_eq]
 ·rfl
 ·simp only [resF,getE_eq]
 ·exact gen
theorem argsD_e : ∀ (l : List EV) (i : Nat) (tm : Tmps),tmp (setArgsR l i tm) = argsD l i (tmp tm)
 | [],_,_=>rfl
 | v :: r,i,tm=>by
  show tmp (setArgsR r (Nat.succ i) (setP (pathOf i) (some v) tm)) = argsD r (Nat.succ i) (upd' (tmp tm) i v)
  rw [argsD_e r,setP_eq,tmp_upd]
theorem funF_D {T : Tab} {call round : Caller} {fuel f : Nat} (ok : okF T f = true) (args : List EV) (h : AHeap) : funF T call round fuel f args h = funD T call call round fuel f args h:=by
 unfold okF at ok
 unfold funF funD
 cases hf : T.fn f with
 | none=>rfl
 | some fn=>
  rw [hf] at ok
  obtain ⟨name,origin,targs,params,rts,nfree,n,results,body,nr,ours,file,el,ln,met,tn⟩:=fn
  cases body with
  | none=>rfl
  | some c=>
   simp only at ok ⊢
   show cnd (Nat.ble (lenR args) n) (codeK T call round fuel f n none (fun _=>badC) (retC T results.toList) c [] (retC T results.toList) (setArgsR args 0 .nil) h []) none = _
   cases Nat.ble (lenR args) n with
   | false=>rfl
   | true=>
    show codeK T call round fuel f n none (fun _=>badC) (retC T results.toList) c [] (retC T results.toList) (setArgsR args 0 .nil) h [] = _
    rw [codeK_D (retC_D T _) c [] [] _ _ ok (fun _ _ _=>rfl) (retC_D T _),argsD_e]
    rfl
end Go.Ev

namespace Go.Ev
noncomputable section
inductive Hk where
 | no
 | here (X : CD)
 | two (a b : Hk)
abbrev Hk.l (H : Hk) : Hk:=match H with | .two a _=>a | _=>.no
abbrev Hk.r (H : Hk) : Hk:=match H with | .two _ b=>b | _=>.no
section
variable (T : Tab) (call callV round : Caller) (fuel n : Nat) (ret : CD)
abbrev codeH (H : Hk) : Code->EnvD->CD->CD:=
 @Hk.rec (fun _=>Code->EnvD->CD->CD) (fun c env k=>codeD T call callV round fuel n ret c env k) (fun X _ _ _=>X)
  (fun _ _ a b c env k=>match c with
   | .seq x y=>a x env (b y env k)
   | .cond v x y=>fun ρ h=>match opndD ρ v with | some e=>ifE e (a x env k ρ h) (b y env k ρ h) | none=>none
   | .block id x=>a x ((id,k) :: env) k
   | c=>codeD T call callV round fuel n ret c env k) H
abbrev atH (p : List Bool) : Hk->Code->EnvD->CD->CD:=
 @List.rec Bool (fun _=>Hk->Code->EnvD->CD->CD) (fun _ c env k=>codeD T call callV round fuel n ret c env k)
  (fun s _ ih H c env k=>match c with
   | .seq x y=>cnd s (ih H.r y env k) (ih H.l x env (codeH T call callV round fuel n ret H.r y env k))
   | .cond _ x y=>cnd s (ih H.r y env k) (ih H.l x env k)
   | .block id x=>ih H.l x ((id,k) :: env) k
   | c=>codeD T call callV round fuel n ret c env k) p
end
abbrev setH (p : List Bool) (X : CD) : Hk->Hk:=
 @List.rec Bool (fun _=>Hk->Hk) (fun _=>.here X) (fun s _ ih H=>cnd s (.two H.l (ih H.r)) (.two (ih H.l) H.r)) p
def freeH (p : List Bool) : Hk->Code->Bool:=
 @List.rec Bool (fun _=>Hk->Code->Bool) (fun H _=>match H with | .no=>true | _=>false)
  (fun s _ ih H c=>match H with
   | .here _=>false
   | H=>match c with
    | .seq x y=>cnd s (ih H.r y) (ih H.l x)
    | .cond _ x y=>cnd s (ih H.r y) (ih H.l x)
    | .block _ x=>cnd s false (ih H.l x)
    | _=>false) p
def subC (p : List Bool) : Code->Code:=
 @List.rec Bool (fun _=>Code->Code) (fun c=>c) (fun s _ ih c=>match c with
  | .seq x y=>cnd s (ih y) (ih x)
  | .cond _ x y=>cnd s (ih y) (ih x)
  | .block _ x=>ih x
  | .loop x=>ih x
  | c=>c) p
abbrev bodyOf (T : Tab) (g : Nat) : Code:=match T.fn g with | some { body:=some c,.. }=>c | _=>.skip
abbrev nOf (T : Tab) (g : Nat) : Nat:=match T.fn g with | some f=>f.ntmps | _=>0
abbrev retOf (T : Tab) (g : Nat) : CD:=match T.fn g with | some f=>retD T f.results.toList | _=>fun _ _=>none
abbrev u0 : VS:=fun _=>.tuple []
abbrev lbOf (T : Tab) (g : Nat) (p : List Bool) : Code:=match subC p (bodyOf T g) with | .loop c=>c | c=>c
end
section
variable {T : Tab} {call callV round : Caller} {fuel n : Nat} {ret : CD}
theorem codeH_two (H : Hk) (hn : ∀ X,H ≠ .here X) (c : Code) (env : EnvD) (k : CD) : codeH T call callV round fuel n ret H c env k = codeH T call callV round fuel n ret (.two H.l H.r) c env k:=by
 cases H with
 | no=>cases c <;> rfl
 | here X=>exact (hn X rfl).elim
 | two a b=>rfl
theorem codeH_set (X : CD) : ∀ (p : List Bool) (H : Hk) (c : Code) (env : EnvD) (k : CD),freeH p H c = true->atH T call callV round fuel n ret p H c env k = X->codeH T call callV round fuel n ret H c env k = codeH T call callV round fuel n ret (setH p X H) c env k
 | [],H,c,env,k,hf,e=>by
  cases H with
  | no=>exact e
  | here _=>cases hf
  | two _ _=>cases hf
 | s :: p,H,c,env,k,hf,e=>by
  have hn : ∀ Y,H ≠ .here Y:=fun Y y=>by subst y; cases hf
  have hs : setH (s :: p) X H = cnd s (.two H.l (setH p X H.r)) (.two (setH p X H.l) H.r):=rfl
  rw [codeH_two H hn,hs]
  have hc : ∃ x y id v,c = .seq x y\/c = .cond v x y\/c = .block id x:=by
   cases H with
   | here Y=>exact (hn Y rfl).elim
   | no=>cases c <;> first | exact ⟨_,_,0,default,.inl rfl⟩ | exact ⟨_,_,0,_,.inr (.inl rfl)⟩ | exact ⟨_,.skip,_,default,.inr (.inr rfl)⟩ | cases hf
   | two a b=>cases c <;> first | exact ⟨_,_,0,default,.inl rfl⟩ | exact ⟨_,_,0,_,.inr (.inl rfl)⟩ | exact ⟨_,.skip,_,default,.inr (.inr rfl)⟩ | cases hf
  obtain ⟨x,y,id,v,rfl | rfl | rfl⟩:=hc
  ·have hf' : cnd s (freeH p H.r y) (freeH p H.l x) = true:=by cases H <;> first | exact hf | exact (hn _ rfl).elim
   have e' : cnd s (atH T call callV round fuel n ret p H.r y env k) (atH T call callV round fuel n ret p H.l x env (codeH T call callV round fuel n ret H.r y env k)) = X:=e
   cases s with
   | true=>show codeH T call callV round fuel n ret H.l x env (codeH T call callV round fuel n ret H.r y env k) = codeH T call callV round fuel n ret H.l x env (codeH T call callV round fuel n ret (setH p X H.r) y env k); rw [codeH_set X p H.r y env k hf' e']
   | false=>exact codeH_set X p H.l x env _ hf' e'
  ·have hf' : cnd s (freeH p H.r y) (freeH p H.l x) = true:=by cases H <;> first | exact hf | exact (hn _ rfl).elim
   have e' : cnd s (atH T call callV round fuel n ret p H.r y env k) (atH T call callV round fuel n ret p H.l x env k) = X:=e
   cases s with
   | true=>
    show (fun ρ h=>match opndD ρ v with | some e=>ifE e (codeH T call callV round fuel n ret H.l x env k ρ h) (codeH T call callV round fuel n ret H.r y env k ρ h) | none=>none) = fun ρ h=>match opndD ρ v with | some e=>ifE e (codeH T call callV round fuel n ret H.l x env k ρ h) (codeH T call callV round fuel n ret (setH p X H.r) y env k ρ h) | none=>none
    rw [codeH_set X p H.r y env k hf' e']
   | false=>
    show (fun ρ h=>match opndD ρ v with | some e=>ifE e (codeH T call callV round fuel n ret H.l x env k ρ h) (codeH T call callV round fuel n ret H.r y env k ρ h) | none=>none) = fun ρ h=>match opndD ρ v with | some e=>ifE e (codeH T call callV round fuel n ret (setH p X H.l) x env k ρ h) (codeH T call callV round fuel n ret H.r y env k ρ h) | none=>none
    rw [codeH_set X p H.l x env k hf' e']
  ·have hf' : cnd s false (freeH p H.l x) = true:=by cases H <;> first | exact hf | exact (hn _ rfl).elim
   cases s with
   | true=>cases hf'
   | false=>exact codeH_set X p H.l x _ k hf' e
theorem cut (p : List Bool) {H : Hk} {c : Code} {env : EnvD} {k X Y Z : CD} (e : Y = X) (hf : freeH p H c = true) (ha : atH T call callV round fuel n ret p H c env k = Y) (rest : codeH T call callV round fuel n ret (setH p X H) c env k = Z) :
 codeH T call callV round fuel n ret H c env k = Z:=(codeH_set X p H c env k hf (ha.trans e)).trans rest
theorem loopD_eq {B : CD->CD} {E : Nat->CD} (h0 : E 0 = fun _ _=>none) (hs : ∀ m,B (E m) = E (m + 1)) : ∀ m,loopD B m = E m
 | 0=>h0.symm
 | m + 1=>by
  show B (loopD B m) = _
  rw [loopD_eq h0 hs m,hs]
theorem ext2 {A B : CD} (e : ∀ ρ h,A ρ h = B ρ h) : A = B:=funext fun ρ=>funext fun h=>e ρ h
end
noncomputable section
abbrev w0 (g : Nat) (f : AHeap->R) (c : Caller) : Caller:=fun g' xs h=>cnd (Nat.beq g g') (@List.rec EV (fun _=>R) (f h) (fun _ _ _=>c g' xs h) xs) (c g' xs h)
abbrev w1 (g : Nat) (f : EV->AHeap->R) (c : Caller) : Caller:=fun g' xs h=>cnd (Nat.beq g g') (match xs with | [a]=>f a h | xs=>c g' xs h) (c g' xs h)
abbrev w2 (g : Nat) (f : EV->EV->AHeap->R) (c : Caller) : Caller:=fun g' xs h=>cnd (Nat.beq g g') (match xs with | [a,b]=>f a b h | xs=>c g' xs h) (c g' xs h)
abbrev w3 (g : Nat) (f : EV->EV->EV->AHeap->R) (c : Caller) : Caller:=fun g' xs h=>cnd (Nat.beq g g') (match xs with | [a,b,d]=>f a b d h | xs=>c g' xs h) (c g' xs h)
abbrev w4 (g : Nat) (f : EV->EV->EV->EV->AHeap->R) (c : Caller) : Caller:=fun g' xs h=>cnd (Nat.beq g g') (match xs with | [a,b,d,e]=>f a b d e h | xs=>c g' xs h) (c g' xs h)
abbrev w5 (g : Nat) (f : EV->EV->EV->EV->EV->AHeap->R) (c : Caller) : Caller:=fun g' xs h=>cnd (Nat.beq g g') (match xs with | [a,b,d,e,i]=>f a b d e i h | xs=>c g' xs h) (c g' xs h)
end
section
variable {c x : Caller} {g : Nat}
theorem W0 {f : AHeap->R} (e : ∀ h,c g [] h = f h) (y : c = x) : c = w0 g f x:=by
 subst y; funext g' xs h; show _ = cnd (Nat.beq g g') _ _
 cases hb : Nat.beq g g' with
 | false=>rfl
 | true=>have:=Nat.eq_of_beq_eq_true hb; subst this; cases xs <;> first | exact e h | rfl
theorem W1 {f : EV->AHeap->R} (e : ∀ a h,c g [a] h = f a h) (y : c = x) : c = w1 g f x:=by
 subst y; funext g' xs h; show _ = cnd (Nat.beq g g') _ _
 cases hb : Nat.beq g g' with
 | false=>rfl
 | true=>have:=Nat.eq_of_beq_eq_true hb; subst this; show c g xs h = (match xs with | [a]=>f a h | xs=>c g xs h); split <;> first | exact e _ h | rfl
theorem W2 {f : EV->EV->AHeap->R} (e : ∀ a b h,c g [a,b] h = f a b h) (y : c = x) : c = w2 g f x:=by
 subst y; funext g' xs h; show _ = cnd (Nat.beq g g') _ _
 cases hb : Nat.beq g g' with
 | false=>rfl
 | true=>have:=Nat.eq_of_beq_eq_true hb; subst this; show c g xs h = (match xs with | [a,b]=>f a b h | xs=>c g xs h); split <;> first | exact e _ _ h | rfl
theorem W3 {f : EV->EV->EV->AHeap->R} (e : ∀ a b d h,c g [a,b,d] h = f a b d h) (y : c = x) : c = w3 g f x:=by
 subst y; funext g' xs h; show _ = cnd (Nat.beq g g') _ _
 cases hb : Nat.beq g g' with
 | false=>rfl
 | true=>have:=Nat.eq_of_beq_eq_true hb; subst this; show c g xs h = (match xs with | [a,b,d]=>f a b d h | xs=>c g xs h); split <;> first | exact e _ _ _ h | rfl
theorem W4 {f : EV->EV->EV->EV->AHeap->R} (e : ∀ a b d i h,c g [a,b,d,i] h = f a b d i h) (y : c = x) : c = w4 g f x:=by
 subst y; funext g' xs h; show _ = cnd (Nat.beq g g') _ _
 cases hb : Nat.beq g g' with
 | false=>rfl
 | true=>have:=Nat.eq_of_beq_eq_true hb; subst this; show c g xs h = (match xs with | [a,b,d,e]=>f a b d e h | xs=>c g xs h); split <;> first | exact e _ _ _ _ h | rfl
theorem W5 {f : EV->EV->EV->EV->EV->AHeap->R} (e : ∀ a b d i j h,c g [a,b,d,i,j] h = f a b d i j h) (y : c = x) : c = w5 g f x:=by
 subst y; funext g' xs h; show _ = cnd (Nat.beq g g') _ _
 cases hb : Nat.beq g g' with
 | false=>rfl
 | true=>have:=Nat.eq_of_beq_eq_true hb; subst this; show c g xs h = (match xs with | [a,b,d,e,i]=>f a b d e i h | xs=>c g xs h); split <;> first | exact e _ _ _ _ _ h | rfl
end
noncomputable def chkF (T : Tab) (g n : Nat) : Bool:=cnd (okF T g) (Nat.ble n (nOf T g)) false
theorem funD_body {T : Tab} {c r : Caller} {K g : Nat} {args : List EV} (hk : chkF T g (lenR args) = true) (h : AHeap) : funF T c r K g args h = codeH T c c r K (nOf T g) (retOf T g) .no (bodyOf T g) [] (retOf T g) (argsD args 0 u0) h:=by
 obtain ⟨h1,h2⟩:=cnd_and' hk
 rw [funF_D h1]
 unfold okF at h1
 unfold nOf at h2
 unfold funD nOf retOf bodyOf
 cases hf : T.fn g with
 | none=>rw [hf] at h1; try cases h1
 | some fn=>
  rw [hf] at h1 h2
  obtain ⟨name,origin,targs,params,rts,nfree,n,results,body,nr,ours,file,el,ln,met,tn⟩:=fn
  cases body with
  | none=>cases h1
  | some c0=>
   show cnd (Nat.ble (lenR args) n) _ none = _
   rw [show Nat.ble (lenR args) n = true from h2]
   rfl
end Go.Ev
