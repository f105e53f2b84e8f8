import Derived.Test.YtpkcfamminlmaaaGreatProg
import Derived.Test.YtpkcfamminlmaaaGreatEvSix
set_option linter.unusedVariables false
set_option linter.unusedSimpArgs false
set_option linter.unusedSectionVars false
namespace Go.Ev
open Go.Proofs
noncomputable def fn2 : Tr Func:=ofListFrom Tryz.prog.funcs.toList 0 .nil
noncomputable def ty2 : Tr TypeInfo:=ofListFrom Tryz.prog.types.toList 0 .nil
def eqs2 : List (Nat × List Nat):=[(243,List.replicate 2 0),(118,List.replicate 44 0),(87,List.replicate 32 0),(23,List.replicate 6 0),(72,List.replicate 256 0)]
noncomputable def TT : Tab:=mkTab fn2 ty2 eqs2 [243]
noncomputable abbrev TP : Program:=Tryz.prog
theorem T2_mixed : Tryz.prog.follows .mixedOrders = true:=by kernel_rfl
theorem T2_names : (Tryz.prog.funcs.toList.all fun f=>!(f.name == "runtime.NumGoroutine")) = true:=by kernel_rfl
theorem T2_flat : (eqs2.all fun x=>decide (flat Tryz.prog 6 x.1 = some x.2) && isA Tryz.prog x.1 && !(Tryz.prog.eqGuardType Tryz.prog.depth x.1)) = true:=by kernel_rfl
theorem T2_key : keyStruct Tryz.prog 243 = true:=by kernel_rfl
theorem TT_ok : TabOk TP TT:=mkTab_ok T2_mixed T2_names (fun x hx=>by
 have:=List.all_eq_true.1 T2_flat x hx
 simp only [Bool.and_eq_true,decide_eq_true_eq,Bool.not_eq_true'] at this
 exact ⟨this.1.1,this.1.2,this.2⟩) (fun t ht=>by
 rw [List.mem_singleton] at ht; subst ht; exact .inl T2_key)
noncomputable def putFTs (l : List (Nat × FT)) : Tr FT:=@List.rec (Nat × FT) (fun _=>Tr FT) .nil (fun x _ ih=>ih.put x.1 (some x.2)) l
def AllFt (P : Program) : List (Nat × FT)->Prop
 | []=>True
 | x :: r=>FtOk P x.1 x.2/\AllFt P r
theorem putFTs_get {P : Program} : ∀ {l : List (Nat × FT)},AllFt P l->∀ {g : Nat} {F : FT},(putFTs l).get g = some F->FtOk P g F
 | [],_,g,F,h=>by cases h
 | x :: r,ha,g,F,h=>by
  have e : putFTs (x :: r) = (putFTs r).put x.1 (some x.2):=rfl
  rw [e,Tr.get_put] at h
  split at h
  ·rename_i hi; cases h; rw [<-hi]; exact ha.1
  ·exact putFTs_get ha.2 h
noncomputable def plainF (g : Nat) : Bool:=cnd (Nat.beq g 26) false (cnd (Nat.beq g 11) false (cnd (Nat.beq g 23) false (cnd (Nat.beq g 44) false true)))
end Go.Ev
