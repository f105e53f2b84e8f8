import Derived.Test.YtadnemjjlacolaaGreatEvSix
import Derived.Test.YtadnemjjlacolaaGreatTab
set_option linter.all false
namespace Go.Ev
open Go.Proofs
set_option maxRecDepth 100000
variable {disp:Nat->Option FT}
noncomputable section
def mb(n:Nat):EV:=.int .u8 (.ofNat n)
def Bds(x:Nat):Nat:=Bf (Nat.beq (Nat.land x 1) 1) (Nat.xor (Nat.div x 2) 2197175160) (Nat.div x 2)
def Bwg:Nat->Nat->List EV:=@Nat.rec (fun _=>Nat->List EV) (fun _=>[]) fun _ a i=>.int .u32 (.ofNat (Bds (Bds (Bds (Bds (Bds (Bds (Bds (Bds i)))))))))::a (Nat.succ i)
def Bn:List EV:=Bwg 256 0
def Abr:EV:=.agg Bn
def A8y:FT:=fun _ _ _ args h=>@List.rec EV (fun _=>R) (some (Abr,h)) (fun _ _ _=>none) args
def A8k(_:Nat)(h:Ab):R:=some (Abr,h)
end
noncomputable def A0u(g:Nat):Bool:=Bu5 g
structure Bj(disp:Nat->Option FT):Prop where
 plain:∀g,A0u g=true->disp g=none
 crc:disp 51=some A8y
theorem Bdb(H:Bj disp){K d:Nat}(hd:1<=d)(h:Ab):Ae TT disp K d false 51 [] h=A8k K h:=by
 obtain⟨d,rfl⟩:∃e,d=e+1:=⟨d-1,by omega⟩;rw[Bdg H.crc];rfl
end Go.Ev
