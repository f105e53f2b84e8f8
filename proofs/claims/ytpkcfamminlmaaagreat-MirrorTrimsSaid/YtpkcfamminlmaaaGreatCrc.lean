import Derived.Test.YtpkcfamminlmaaaGreatFun
set_option linter.unusedVariables false
set_option linter.unusedSimpArgs false
set_option linter.unusedSectionVars false
namespace Go.Ev
open Go.Proofs
set_option maxRecDepth 100000
noncomputable section
def gaveV (v : EV) (r : R) : Bool:=match r with | some (w,_)=>eqV w v | none=>false
end
theorem crcRan : gaveV crcV (callC TT disp3 many 60 false 26 [] ⟨.nil,0,0⟩) = true:=by kernel_rfl
theorem crcFlat : (crcCells.all fun v=>match v with | .int _ _=>true | _=>false) = true:=by kernel_rfl
theorem flat_toV {l : List EV} (h : (l.all fun v=>match v with | .int _ _=>true | _=>false) = true) (f g : Loc) : toVs f l = toVs g l:=by
 induction l with
 | nil=>rfl
 | cons a r ih=>
  rw [List.all_cons,Bool.and_eq_true] at h
  simp only [toVs]
  rw [ih h.2]
  cases a <;> first | rfl | (simp at h)
theorem flat_ok {l : List EV} (h : (l.all fun v=>match v with | .int _ _=>true | _=>false) = true) (p : Nat->Prop) : EV.okL p l/\l.all EV.one = true:=by
 induction l with
 | nil=>exact ⟨trivial,rfl⟩
 | cons a r ih=>
  rw [List.all_cons,Bool.and_eq_true] at h
  obtain ⟨i1,i2⟩:=ih h.2
  rw [List.all_cons,i2]
  cases a <;> first | exact ⟨⟨trivial,i1⟩,rfl⟩ | (simp at h)
theorem hookCrc_ok : FtOk TP 26 hookCrc:=by
 intro call round K _ _ args h v h' e
 have hs:=(callC_ok TT_ok disp3_ok many 60).1
 have hr:=crcRan
 unfold gaveV at hr
 split at hr
 ·rename_i w h0 hrun
  have hw:=eqV_spec hr
  subst hw
  obtain ⟨fn,hf,hb,hn⟩:=(hs 26 [] _ _ _ hrun).fn
  have hv : ∀ f,toV f crcV = toV ⟨fun _=>0,fun _=>0⟩ crcV:=fun f=>by
   show toV f (.agg crcCells) = toV _ (.agg crcCells)
   simp only [toV]; rw [flat_toV crcFlat f ⟨fun _=>0,fun _=>0⟩]
  obtain ⟨k1,k2⟩:=hookOne_ok (P:=TP) (g:=26) (v:=crcV) hv (fun p=>flat_ok crcFlat p) hf hb hn (fun w=>calls_none hs.call hrun hv w)
  cases args with
  | nil=>exact Sound.of k1 k2 26 [] h v h' e
  | cons a r=>cases e
 ·cases hr
theorem disp_cons {P : Program} {disp : Nat->Option FT} (h : ∀ g F,disp g = some F->FtOk P g F) {n : Nat} {G : FT} (hG : FtOk P n G) : ∀ g F,cnd (Nat.beq g n) (some G) (disp g) = some F->FtOk P g F:=by
 intro g F e
 rw [cnd_eq] at e
 split at e
 ·rename_i hb; cases e; rw [beq_spec hb]; exact hG
 ·exact h g F e
noncomputable def disp3h : Nat->Option FT:=fun f=>cnd (Nat.beq f 26) (some hookCrc) (disp3 f)
theorem disp3h_ok : ∀ g F,disp3h g = some F->FtOk TP g F:=disp_cons disp3_ok hookCrc_ok
noncomputable def hookT : FT:=fun _ _ _ args h=>@List.rec EV (fun _=>R) (some (.bool true,h)) (fun _ _ _=>none) args
theorem hookT_ok {disp : Nat->Option FT} {n : Nat} (hd : ∀ g F,disp g = some F->FtOk TP g F) (ha : isTrue (callC TT disp many 60 false n [] ⟨.nil,0,0⟩) = true) : FtOk TP n hookT:=by
 intro call round K _ _ args h v h' e
 have hs:=(callC_ok TT_ok hd many 60).1
 obtain ⟨h0,hr⟩:=isTrue_spec ha
 obtain ⟨fn,hf,hb,hn⟩:=(hs n [] _ _ _ hr).fn
 obtain ⟨k1,k2⟩:=hookOne_ok (P:=TP) (g:=n) (v:=.bool true) (V:=.bool true) (fun _=>rfl) (fun p=>trivial) hf hb hn fun w=>calls_none hs.call hr (fun _=>rfl) w
 cases args with
 | nil=>exact Sound.of k1 k2 n [] h v h' (by unfold hookOne; rw [Nat.beq_refl,cnd_true]; exact e)
 | cons a r=>cases e
end Go.Ev
