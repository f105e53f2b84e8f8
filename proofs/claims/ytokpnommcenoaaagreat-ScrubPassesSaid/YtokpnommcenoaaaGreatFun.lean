import Derived.Test.YtokpnommcenoaaaGreatEvSix
import Derived.Test.YtokpnommcenoaaaGreatTab
set_option linter.all false
namespace Go.Ev
open Go.Proofs
set_option maxRecDepth 100000
variable {disp:Nat->Option FT}
noncomputable section
def mi(n:Nat):EV:=.int .i64 (.ofNat n)
def mb(n:Nat):EV:=.int .u8 (.ofNat n)
def Baz(n:Nat)(v:EV):List EV:=@Nat.rec (fun _=>List EV) [] (fun _ a=>v::a) n
def Ba9(x:Nat):Nat:=Ax (Nat.beq (Nat.land x 1) 1) (Nat.xor (Nat.div x 2) 2197175160) (Nat.div x 2)
def Bu7:Nat->Nat->List EV:=@Nat.rec (fun _=>Nat->List EV) (fun _=>[]) fun _ a i=>.int .u32 (.ofNat (Ba9 (Ba9 (Ba9 (Ba9 (Ba9 (Ba9 (Ba9 (Ba9 i)))))))))::a (Nat.succ i)
def Be:List EV:=Bu7 256 0
def U0:EV:=.agg Be
def A8h:FT:=fun _ _ _ args h=>@List.rec EV (fun _=>R) (some (U0,h)) (fun _ _ _=>none) args
def A6o(_:Nat)(h:Ab):R:=some (U0,h)
end
noncomputable def Ayd(g:Nat):Bool:=Ax (Nat.beq g 27) false (Btt g)
noncomputable def F27:FT:=fun c r K=>Ax5 TT c r K 27
structure By(disp:Nat->Option FT):Prop where
 plain:∀g,Ayd g=true->disp g=none
 crc:disp 63=some A8h
theorem Bbo(H:By disp){K d:Nat}(hd:1<=d)(h:Ab):Ag TT disp K d false 63 [] h=A6o K h:=by
 obtain⟨d,rfl⟩:∃e,d=e+1:=⟨d-1,by omega⟩;rw[Avv H.crc];rfl
end Go.Ev
