import Derived.Test.YtadnemjjlacolaaGreatEvSix
import Derived.Test.YtadnemjjlacolaaGreatTab
set_option linter.all false
namespace Go.Ev
open Go.Proofs
set_option maxRecDepth 100000
variable {disp:Nat->Option FT}
noncomputable section
def mb(n:Nat):EV:=.int .u8 (.ofNat n)
def A63(x:Nat):Nat:=Ba (Nat.beq (Nat.land x 1) 1) (Nat.xor (Nat.div x 2) 2197175160) (Nat.div x 2)
def Bqb:Nat->Nat->List EV:=@Nat.rec (fun _=>Nat->List EV) (fun _=>[]) fun _ a i=>.int .u32 (.ofNat (A63 (A63 (A63 (A63 (A63 (A63 (A63 (A63 i)))))))))::a (Nat.succ i)
def Bi:List EV:=Bqb 256 0
def Vl:EV:=.agg Bi
def A3d:FT:=fun _ _ _ args h=>@List.rec EV (fun _=>R) (some (Vl,h)) (fun _ _ _=>none) args
def A4n(_:Nat)(h:Aa):R:=some (Vl,h)
end
noncomputable def Auq(g:Nat):Bool:=Bod g
structure Bv(disp:Nat->Option FT):Prop where
 plain:∀g,Auq g=true->disp g=none
 crc:disp 51=some A3d
theorem A6y(H:Bv disp){K d:Nat}(hd:1<=d)(h:Aa):Ag TT disp K d false 51 [] h=A4n K h:=by
 obtain⟨d,rfl⟩:∃e,d=e+1:=⟨d-1,by omega⟩;rw[A5z H.crc];rfl
end Go.Ev
