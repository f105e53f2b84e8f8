import Derived.Test.YtokpnommcenoaaaGreatProg
import Derived.Test.YtokpnommcenoaaaGreatEvSix
set_option linter.unusedVariables false
set_option linter.unusedSimpArgs false
set_option linter.unusedSectionVars false
namespace Go.Ev
open Go.Proofs
noncomputable def fn2:Tr Func:=Ck Tryz.prog.funcs.toList 0 .nil
noncomputable def ty2:Tr TypeInfo:=Ck Tryz.prog.types.toList 0 .nil
def Avn:List (Nat × List Nat):=[(179,List.replicate 2 0),(71,List.replicate 2 0),(23,List.replicate 6 0),(53,List.replicate 6 0),(85,List.replicate 32 0),(100,[1,0,0,0,0,0,0,0,0,0,1]),(245,List.replicate 44 0),(247,List.replicate 49 0),(119,List.replicate 256 0)]
noncomputable def TT:Cr:=Ago fn2 ty2 Avn [179,71]
noncomputable abbrev TP:Program:=Tryz.prog
theorem Aon:Tryz.prog.follows .mixedOrders=true:=by kernel_rfl
theorem Aks:(Tryz.prog.funcs.toList.all fun f=>!(f.name == "runtime.NumGoroutine"))=true:=by kernel_rfl
theorem Aqg:(Avn.all fun x=>decide (flat Tryz.prog 6 x.1=some x.2) && Wo Tryz.prog x.1 && !(Tryz.prog.eqGuardType Tryz.prog.depth x.1))=true:=by kernel_rfl
theorem Au6:M9 Tryz.prog 179=true:=by kernel_rfl
theorem Aro:Yh Tryz.prog 71=true:=by kernel_rfl
theorem A7:Fi TP TT:=Aom Aon Aks (fun x hx=>by
 have:=List.all_eq_true.1 Aqg x hx
 simp only[Bool.and_eq_true,decide_eq_true_eq,Bool.not_eq_true']at this
 exact⟨this.1.1,this.1.2,this.2⟩) (fun t ht=>by
 rcases List.mem_cons.1 ht with rfl|ht
 ·exact .inl Au6
 ·rw[List.mem_singleton]at ht;subst ht;exact .inr Aro)
noncomputable def Aaq(l:List (Nat × FT)):Tr FT:=@List.rec (Nat × FT) (fun _=>Tr FT) .nil (fun x _ ih=>ih.put x.1 (some x.2)) l
def Akt(P:Program):List (Nat × FT)->Prop
 | []=>True
 | x::r=>Aq P x.1 x.2/\Akt P r
theorem Yl {P:Program}:∀ {l:List (Nat × FT)},Akt P l->∀ {g:Nat} {F:FT},(Aaq l).get g=some F->Aq P g F
 | [],_,g,F,h=>by cases h
 | x::r,ha,g,F,h=>by
  have e:Aaq (x::r)=(Aaq r).put x.1 (some x.2):=rfl
  rw[e,Tr.get_put]at h
  split at h
  ·rename_i hi;cases h;rw[<-hi];exact ha.1
  ·exact Yl ha.2 h
noncomputable def Amp(g:Nat):Bool:=Al (Nat.beq g 48) false (Al (Nat.beq g 41) false (Al (Nat.beq g 29) false (Al (Nat.beq g 10) false (Al (Nat.beq g 63) false (Al (Nat.beq g 105) false true)))))
end Go.Ev
