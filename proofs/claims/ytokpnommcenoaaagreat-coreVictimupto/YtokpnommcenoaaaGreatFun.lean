import Derived.Test.YtokpnommcenoaaaGreatEvSix
import Derived.Test.YtokpnommcenoaaaGreatTab
set_option linter.all false
namespace Go.Ev
open Go.Proofs
set_option maxRecDepth 100000
variable {disp:Nat->Option FT}
noncomputable section
def A6l(x:Nat):Nat:=Bb (Nat.beq (Nat.land x 1) 1) (Nat.xor (Nat.div x 2) 2197175160) (Nat.div x 2)
def Bp8:Nat->Nat->List EV:=@Nat.rec (fun _=>Nat->List EV) (fun _=>[]) fun _ a i=>.int .u32 (.ofNat (A6l (A6l (A6l (A6l (A6l (A6l (A6l (A6l i)))))))))::a (Nat.succ i)
def Ba:List EV:=Bp8 256 0
def Wc:EV:=.agg Ba
def A3j:FT:=fun _ _ _ args h=>@List.rec EV (fun _=>R) (some (Wc,h)) (fun _ _ _=>none) args
def A4e(_:Nat)(h:Ab):R:=some (Wc,h)
end
noncomputable def Avc(g:Nat):Bool:=Bb (Nat.beq g 27) false (Bnq g)
noncomputable def F27:FT:=fun c r K=>Axb TT c r K 27
structure Ca(disp:Nat->Option FT):Prop where
 plain:∀g,Avc g=true->disp g=none
 crc:disp 63=some A3j
theorem A6g(H:Ca disp){K d:Nat}(hd:1<=d)(h:Ab):Ag TT disp K d false 63 [] h=A4e K h:=by
 obtain⟨d,rfl⟩:∃e,d=e+1:=⟨d-1,by omega⟩;rw[Atk H.crc];rfl
end Go.Ev
