import Derived.Test.YtpkcfamminlmaaaGreatProg
import Derived.Test.YtpkcfamminlmaaaGreatEvSix
set_option linter.unusedVariables false
set_option linter.unusedSimpArgs false
set_option linter.unusedSectionVars false
namespace Go.Ev
open Go.Proofs
noncomputable def fn2:Tr Func:=Eb Tryz.prog.funcs.toList 0 .nil
noncomputable def ty2:Tr TypeInfo:=Eb Tryz.prog.types.toList 0 .nil
def A5s:List (Nat × List Nat):=[(243,List.replicate 2 0),(118,List.replicate 44 0),(87,List.replicate 32 0),(23,List.replicate 6 0),(72,List.replicate 256 0)]
noncomputable def TT:D1:=At3 fn2 ty2 A5s [243]
noncomputable abbrev TP:Program:=Tryz.prog
theorem A0q:Tryz.prog.follows .mixedOrders=true:=by kernel_rfl
theorem Az3:(Tryz.prog.funcs.toList.all fun f=>!(f.name == "runtime.NumGoroutine"))=true:=by kernel_rfl
theorem A1o:(A5s.all fun x=>decide (flat Tryz.prog 6 x.1=some x.2) && isA Tryz.prog x.1 && !(Tryz.prog.eqGuardType Tryz.prog.depth x.1))=true:=by kernel_rfl
theorem A3f:V3 Tryz.prog 243=true:=by kernel_rfl
theorem Al2:Ju TP TT:=Ayn A0q Az3 (fun x hx=>by
 have:=List.all_eq_true.1 A1o x hx
 simp only[Bool.and_eq_true,decide_eq_true_eq,Bool.not_eq_true']at this
 exact⟨this.1.1,this.1.2,this.2⟩) (fun t ht=>by
 rw[List.mem_singleton]at ht;subst ht;exact .inl A3f)
noncomputable def Anv(l:List (Nat × FT)):Tr FT:=@List.rec (Nat × FT) (fun _=>Tr FT) .nil (fun x _ ih=>ih.put x.1 (some x.2)) l
def Az9(P:Program):List (Nat × FT)->Prop
 | []=>True
 | x::r=>Abg P x.1 x.2/\Az9 P r
theorem Ai0 {P:Program}:∀ {l:List (Nat × FT)},Az9 P l->∀ {g:Nat} {F:FT},(Anv l).get g=some F->Abg P g F
 | [],_,g,F,h=>by cases h
 | x::r,ha,g,F,h=>by
  have e:Anv (x::r)=(Anv r).put x.1 (some x.2):=rfl
  rw[e,Tr.get_put]at h
  split at h
  ·rename_i hi;cases h;rw[<-hi];exact ha.1
  ·exact Ai0 ha.2 h
noncomputable def Ay2(g:Nat):Bool:=An (Nat.beq g 26) false (An (Nat.beq g 11) false (An (Nat.beq g 23) false (An (Nat.beq g 44) false true)))
end Go.Ev
