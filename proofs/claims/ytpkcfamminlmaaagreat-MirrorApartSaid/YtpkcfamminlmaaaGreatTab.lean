import Derived.Test.YtpkcfamminlmaaaGreatProg
import Derived.Test.YtpkcfamminlmaaaGreatEvSix
set_option linter.unusedVariables false
set_option linter.unusedSimpArgs false
set_option linter.unusedSectionVars false
namespace Go.Ev
open Go.Proofs
noncomputable def fn2:Tr Func:=D9 Tryz.prog.funcs.toList 0 .nil
noncomputable def ty2:Tr TypeInfo:=D9 Tryz.prog.types.toList 0 .nil
def A62:List (Nat × List Nat):=[(243,List.replicate 2 0),(118,List.replicate 44 0),(87,List.replicate 32 0),(23,List.replicate 6 0),(72,List.replicate 256 0)]
noncomputable def TT:D4:=Au8 fn2 ty2 A62 [243]
noncomputable abbrev TP:Program:=Tryz.prog
theorem Azl:Tryz.prog.follows .mixedOrders=true:=by kernel_rfl
theorem Aze:(Tryz.prog.funcs.toList.all fun f=>!(f.name == "runtime.NumGoroutine"))=true:=by kernel_rfl
theorem A2d:(A62.all fun x=>decide (flat Tryz.prog 6 x.1=some x.2) && isA Tryz.prog x.1 && !(Tryz.prog.eqGuardType Tryz.prog.depth x.1))=true:=by kernel_rfl
theorem A4n:Xd Tryz.prog 243=true:=by kernel_rfl
theorem Aqr:Lc TP TT:=Azq Azl Aze (fun x hx=>by
 have:=List.all_eq_true.1 A2d x hx
 simp only[Bool.and_eq_true,decide_eq_true_eq,Bool.not_eq_true']at this
 exact⟨this.1.1,this.1.2,this.2⟩) (fun t ht=>by
 rw[List.mem_singleton]at ht;subst ht;exact .inl A4n)
noncomputable def Ao4(l:List (Nat × FT)):Tr FT:=@List.rec (Nat × FT) (fun _=>Tr FT) .nil (fun x _ ih=>ih.put x.1 (some x.2)) l
def Azz(P:Program):List (Nat × FT)->Prop
 | []=>True
 | x::r=>Aao P x.1 x.2/\Azz P r
theorem Ako {P:Program}:∀ {l:List (Nat × FT)},Azz P l->∀ {g:Nat} {F:FT},(Ao4 l).get g=some F->Aao P g F
 | [],_,g,F,h=>by cases h
 | x::r,ha,g,F,h=>by
  have e:Ao4 (x::r)=(Ao4 r).put x.1 (some x.2):=rfl
  rw[e,Tr.get_put]at h
  split at h
  ·rename_i hi;cases h;rw[<-hi];exact ha.1
  ·exact Ako ha.2 h
noncomputable def A0w(g:Nat):Bool:=Ao (Nat.beq g 91) false <| Ao (Nat.beq g 26) false (Ao (Nat.beq g 11) false (Ao (Nat.beq g 23) false (Ao (Nat.beq g 44) false true)))
end Go.Ev
