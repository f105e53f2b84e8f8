import Derived.Test.YtokpnommcenoaaaGreatEvSix
import Derived.Test.YtokpnommcenoaaaGreatTab
set_option linter.all false
namespace Go.Ev
open Go.Proofs
set_option maxRecDepth 100000
variable {disp:Nat->Option FT}
noncomputable section
def mi(n:Nat):EV:=.int .i64 (.ofNat n)
def mb(n:Nat):EV:=.int .u8 (.ofNat n)
def A9y(n:Nat)(v:EV):List EV:=@Nat.rec (fun _=>List EV) [] (fun _ a=>v::a) n
def Bav(x:Nat):Nat:=Ax (Nat.beq (Nat.land x 1) 1) (Nat.xor (Nat.div x 2) 2197175160) (Nat.div x 2)
def Bu3:Nat->Nat->List EV:=@Nat.rec (fun _=>Nat->List EV) (fun _=>[]) fun _ a i=>.int .u32 (.ofNat (Bav (Bav (Bav (Bav (Bav (Bav (Bav (Bav i)))))))))::a (Nat.succ i)
def Be:List EV:=Bu3 256 0
def Uh:EV:=.agg Be
def A7c:FT:=fun _ _ _ args h=>@List.rec EV (fun _=>R) (some (Uh,h)) (fun _ _ _=>none) args
def A6y(_:Nat)(h:Ab):R:=some (Uh,h)
end
noncomputable def Ax6(g:Nat):Bool:=Ax (Nat.beq g 27) false (Bse g)
noncomputable def F27:FT:=fun c r K=>Axk TT c r K 27
structure Bw(disp:Nat->Option FT):Prop where
 plain:∀g,Ax6 g=true->disp g=none
 crc:disp 63=some A7c
theorem A9v(H:Bw disp){K d:Nat}(hd:1<=d)(h:Ab):Ag TT disp K d false 63 [] h=A6y K h:=by
 obtain⟨d,rfl⟩:∃e,d=e+1:=⟨d-1,by omega⟩;rw[Avg H.crc];rfl
end Go.Ev
