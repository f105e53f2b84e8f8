import Derived.Test.YtpkcfamminlmaaaGreatProg
import Derived.Test.YtpkcfamminlmaaaGreatEvSix
set_option linter.unusedVariables false
set_option linter.unusedSimpArgs false
set_option linter.unusedSectionVars false
namespace Go.Ev
open Go.Proofs
noncomputable def fn2:Tr Func:=Fi Tryz.prog.funcs.toList 0 .nil
noncomputable def ty2:Tr TypeInfo:=Fi Tryz.prog.types.toList 0 .nil
def Bjn:List (Nat × List Nat):=[(243,List.replicate 2 0),(118,List.replicate 44 0),(87,List.replicate 32 0),(23,List.replicate 6 0),(72,List.replicate 256 0)]
noncomputable def TT:Ff:=A1o fn2 ty2 Bjn [243]
noncomputable abbrev TP:Program:=Tryz.prog
theorem A6d:Tryz.prog.follows .mixedOrders=true:=by kernel_rfl
theorem A86:(Tryz.prog.funcs.toList.all fun f=>!(f.name == "runtime.NumGoroutine"))=true:=by kernel_rfl
theorem Bcp:(Bjn.all fun x=>decide (flat Tryz.prog 6 x.1=some x.2) && isA Tryz.prog x.1 && !(Tryz.prog.eqGuardType Tryz.prog.depth x.1))=true:=by kernel_rfl
theorem Bft:Aa4 Tryz.prog 243=true:=by kernel_rfl
theorem Apg:Ly TP TT:=A8q A6d A86 (fun x hx=>by
 have:=List.all_eq_true.1 Bcp x hx
 simp only[Bool.and_eq_true,decide_eq_true_eq,Bool.not_eq_true']at this
 exact⟨this.1.1,this.1.2,this.2⟩) (fun t ht=>by
 rw[List.mem_singleton]at ht;subst ht;exact .inl Bft)
noncomputable def Avt(l:List (Nat × FT)):Tr FT:=@List.rec (Nat × FT) (fun _=>Tr FT) .nil (fun x _ ih=>ih.put x.1 (some x.2)) l
def A73(P:Program):List (Nat × FT)->Prop
 | []=>True
 | x::r=>Ad0 P x.1 x.2/\A73 P r
theorem Aqh {P:Program}:∀ {l:List (Nat × FT)},A73 P l->∀ {g:Nat} {F:FT},(Avt l).get g=some F->Ad0 P g F
 | [],_,g,F,h=>by cases h
 | x::r,ha,g,F,h=>by
  have e:Avt (x::r)=(Avt r).put x.1 (some x.2):=rfl
  rw[e,Tr.get_put]at h
  split at h
  ·rename_i hi;cases h;rw[<-hi];exact ha.1
  ·exact Aqh ha.2 h
noncomputable def A9l(g:Nat):Bool:=Ay (Nat.beq g 26) false (Ay (Nat.beq g 11) false (Ay (Nat.beq g 23) false (Ay (Nat.beq g 44) false true)))
end Go.Ev
