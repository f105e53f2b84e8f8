/-
  No cell of these rows narrows 'for every input' (looked for: loops, veiled, ifaces, maps, wideKeys, modest, calm, conditions, laid).
  DERIVED. THE GIVEN ROWS OF THIS SEAT. 7 by the template 'for every input the law returns true; each argument reads behind the call as it read before'; 0 by the template 'total and deterministic' (their statements: YtokpnommcenoaaaGreatTotals.lean).
  GIVEN WITH THE SEED: the statements are not yours to turn. If you find one false, say at which input.
  Laid BY PROGRAM, IN A SANDBOX (cutbox-rows.mjs): the forced cells as the released guide's own fill.sh prints them over the translation 01ed587a96be457c… (all of the seat's roots in one cut). By AI agents, Wed Nov 11 2026. No macro, syntax, notation, axiom, sorry.
-/
import Derived.Test.YtokpnommcenoaaaGreatChecked
import GoSem.Claim
import GoSem.ClaimJoined
import GoSem.ClaimMapViews
import Derived.JoinedTies
import Derived.KernelRfl
namespace Go.Proofs.YtokpnommcenoaaaGreat
/- THE CELL 'sum', in the pinned program and in every row, IS THE sha256 OF THE DUMP (.gsa) THAT YtokpnommcenoaaaGreatProg.lean LOADS. Nothing in Lean hashes anything: it is a label: what it is worth is what the hold of that sum in a sandbox is worth. -/
noncomputable def Tryz.pinned : Pinned := { name := "ytokpnommcenoaaagreat", sum := "01ed587a96be457c6b946a4704dbde405f85232a5c49cf9d8a0246c1d45d4787", checked := Tryz.checked }
namespace Rows
def none {H : Type} : Left H := { results := [], args := [] }

/-- 'revetmentlaw18.CoreVictim': WHATEVER THE INPUT: true; the input reads as it did. -/
def coreVictimSpec : ChangeSpec := { name := "coreVictim", fn := fun _ => fun
  | [d1, d2] => { results := [.lit (.bool true)], args := [d1, d2] }
  | _ => none }
def coreVictimRow : OpenClaim := { program := "ytokpnommcenoaaagreat", sum := "01ed587a96be457c6b946a4704dbde405f85232a5c49cf9d8a0246c1d45d4787", func := "revetment/revetmentlaw18.CoreVictim", spec := "coreVictim", inPlace := ["slices.overlaps[revetment/plan.Event]"], unfollowed := true, recurses := true, plainKeys := false, apart := false }
def CoreVictimSaid : Prop := coreVictimRow.holds Tryz.pinned (OpenSpec.ofChange coreVictimSpec)

/-- ITS FALSE NEIGHBOUR: 'it returns false'. Refute it at one input. -/
def coreVictimWrong : ChangeSpec := { name := "coreVictim", fn := fun _ => fun
  | [d1, d2] => { results := [.lit (.bool false)], args := [d1, d2] }
  | _ => none }
def CoreVictimWrongFalsely : Prop := coreVictimRow.holds Tryz.pinned (OpenSpec.ofChange coreVictimWrong)

/-- 'revetmentlaw19.ScrubDown': WHATEVER THE INPUT: true; the input reads as it did. -/
def scrubDownSpec : ChangeSpec := { name := "scrubDown", fn := fun _ => fun
  | [d1, d2] => { results := [.lit (.bool true)], args := [d1, d2] }
  | _ => none }
def scrubDownRow : OpenClaim := { program := "ytokpnommcenoaaagreat", sum := "01ed587a96be457c6b946a4704dbde405f85232a5c49cf9d8a0246c1d45d4787", func := "revetment/revetmentlaw19.ScrubDown", spec := "scrubDown", inPlace := ["slices.overlaps[revetment/plan.Event]"], unfollowed := true, recurses := true, plainKeys := false, apart := false }
def ScrubDownSaid : Prop := scrubDownRow.holds Tryz.pinned (OpenSpec.ofChange scrubDownSpec)

/-- ITS FALSE NEIGHBOUR: 'it returns false'. Refute it at one input. -/
def scrubDownWrong : ChangeSpec := { name := "scrubDown", fn := fun _ => fun
  | [d1, d2] => { results := [.lit (.bool false)], args := [d1, d2] }
  | _ => none }
def ScrubDownWrongFalsely : Prop := scrubDownRow.holds Tryz.pinned (OpenSpec.ofChange scrubDownWrong)

/-- 'revetmentlaw19.ScrubPasses': WHATEVER THE INPUT: true; the input reads as it did. -/
def scrubPassesSpec : ChangeSpec := { name := "scrubPasses", fn := fun _ => fun
  | [d1, d2] => { results := [.lit (.bool true)], args := [d1, d2] }
  | _ => none }
def scrubPassesRow : OpenClaim := { program := "ytokpnommcenoaaagreat", sum := "01ed587a96be457c6b946a4704dbde405f85232a5c49cf9d8a0246c1d45d4787", func := "revetment/revetmentlaw19.ScrubPasses", spec := "scrubPasses", inPlace := ["slices.overlaps[revetment/plan.Event]"], unfollowed := true, recurses := true, plainKeys := false, apart := false }
def ScrubPassesSaid : Prop := scrubPassesRow.holds Tryz.pinned (OpenSpec.ofChange scrubPassesSpec)

/-- ITS FALSE NEIGHBOUR: 'it returns false'. Refute it at one input. -/
def scrubPassesWrong : ChangeSpec := { name := "scrubPasses", fn := fun _ => fun
  | [d1, d2] => { results := [.lit (.bool false)], args := [d1, d2] }
  | _ => none }
def ScrubPassesWrongFalsely : Prop := scrubPassesRow.holds Tryz.pinned (OpenSpec.ofChange scrubPassesWrong)

/-- 'revetmentlaw20.MountRaw': WHATEVER THE INPUT: true; the input reads as it did. -/
def mountRawSpec : ChangeSpec := { name := "mountRaw", fn := fun _ => fun
  | [d1, d2, d3, d4] => { results := [.lit (.bool true)], args := [d1, d2, d3, d4] }
  | _ => none }
def mountRawRow : OpenClaim := { program := "ytokpnommcenoaaagreat", sum := "01ed587a96be457c6b946a4704dbde405f85232a5c49cf9d8a0246c1d45d4787", func := "revetment/revetmentlaw20.MountRaw", spec := "mountRaw", inPlace := ["slices.overlaps[revetment/plan.Event]"], unfollowed := true, recurses := true, plainKeys := false, apart := false }
def MountRawSaid : Prop := mountRawRow.holds Tryz.pinned (OpenSpec.ofChange mountRawSpec)

/-- ITS FALSE NEIGHBOUR: 'it returns false'. Refute it at one input. -/
def mountRawWrong : ChangeSpec := { name := "mountRaw", fn := fun _ => fun
  | [d1, d2, d3, d4] => { results := [.lit (.bool false)], args := [d1, d2, d3, d4] }
  | _ => none }
def MountRawWrongFalsely : Prop := mountRawRow.holds Tryz.pinned (OpenSpec.ofChange mountRawWrong)

/-- 'revetmentlaw21.StoreStatus': WHATEVER THE INPUT: true; the input reads as it did. -/
def storeStatusSpec : ChangeSpec := { name := "storeStatus", fn := fun _ => fun
  | [d1, d2] => { results := [.lit (.bool true)], args := [d1, d2] }
  | _ => none }
def storeStatusRow : OpenClaim := { program := "ytokpnommcenoaaagreat", sum := "01ed587a96be457c6b946a4704dbde405f85232a5c49cf9d8a0246c1d45d4787", func := "revetment/revetmentlaw21.StoreStatus", spec := "storeStatus", unfollowed := true, recurses := true, plainKeys := false, apart := false }
def StoreStatusSaid : Prop := storeStatusRow.holds Tryz.pinned (OpenSpec.ofChange storeStatusSpec)

/-- ITS FALSE NEIGHBOUR: 'it returns false'. Refute it at one input. -/
def storeStatusWrong : ChangeSpec := { name := "storeStatus", fn := fun _ => fun
  | [d1, d2] => { results := [.lit (.bool false)], args := [d1, d2] }
  | _ => none }
def StoreStatusWrongFalsely : Prop := storeStatusRow.holds Tryz.pinned (OpenSpec.ofChange storeStatusWrong)

/-- 'revetmentlaw21.StoreFalls': WHATEVER THE INPUT: true; the input reads as it did. -/
def storeFallsSpec : ChangeSpec := { name := "storeFalls", fn := fun _ => fun
  | [d1, d2, d3] => { results := [.lit (.bool true)], args := [d1, d2, d3] }
  | _ => none }
def storeFallsRow : OpenClaim := { program := "ytokpnommcenoaaagreat", sum := "01ed587a96be457c6b946a4704dbde405f85232a5c49cf9d8a0246c1d45d4787", func := "revetment/revetmentlaw21.StoreFalls", spec := "storeFalls", inPlace := ["slices.overlaps[revetment/plan.Event]"], unfollowed := true, recurses := true, plainKeys := false, apart := false }
def StoreFallsSaid : Prop := storeFallsRow.holds Tryz.pinned (OpenSpec.ofChange storeFallsSpec)

/-- ITS FALSE NEIGHBOUR: 'it returns false'. Refute it at one input. -/
def storeFallsWrong : ChangeSpec := { name := "storeFalls", fn := fun _ => fun
  | [d1, d2, d3] => { results := [.lit (.bool false)], args := [d1, d2, d3] }
  | _ => none }
def StoreFallsWrongFalsely : Prop := storeFallsRow.holds Tryz.pinned (OpenSpec.ofChange storeFallsWrong)

/-- 'revetmentlaw21.StoreEmpty': WHATEVER THE INPUT: true; the input reads as it did. -/
def storeEmptySpec : ChangeSpec := { name := "storeEmpty", fn := fun _ => fun
  | [d1, d2] => { results := [.lit (.bool true)], args := [d1, d2] }
  | _ => none }
def storeEmptyRow : OpenClaim := { program := "ytokpnommcenoaaagreat", sum := "01ed587a96be457c6b946a4704dbde405f85232a5c49cf9d8a0246c1d45d4787", func := "revetment/revetmentlaw21.StoreEmpty", spec := "storeEmpty", inPlace := ["slices.overlaps[revetment/plan.Event]"], unfollowed := true, recurses := true, plainKeys := false, apart := false }
def StoreEmptySaid : Prop := storeEmptyRow.holds Tryz.pinned (OpenSpec.ofChange storeEmptySpec)

/-- ITS FALSE NEIGHBOUR: 'it returns false'. Refute it at one input. -/
def storeEmptyWrong : ChangeSpec := { name := "storeEmpty", fn := fun _ => fun
  | [d1, d2] => { results := [.lit (.bool false)], args := [d1, d2] }
  | _ => none }
def StoreEmptyWrongFalsely : Prop := storeEmptyRow.holds Tryz.pinned (OpenSpec.ofChange storeEmptyWrong)

/- THE SECOND FORM. 'bulk': how many values and letters a reading holds, each counted each time it is reached (what is shared counts as often as it is met; a slice's spare places count too). A statement '..UptoSaid' is the law's where the arguments, and the package variables that the reading takes, are together of bulk at most 1048576: NARROWER than '..Said'. Prove '..Said' where nothing that the law and all that it calls make is longer than what came in: it says more and counts as full. Else prove '..UptoSaid'. A law counts once. -/
mutual
def uptoBulk {H : Type} : DataW H → Nat
  | .lit (.string bytes) => bytes.length + 1
  | .lit _ => 1
  | .nil => 1
  | .ptr d => uptoBulk d + 1
  | .slice elems spare => uptoBulkAll elems + uptoBulkAll spare + 1
  | .agg parts => uptoBulkAll parts + 1
  | .iface _ d => uptoBulk d + 1
  | .map entries => uptoBulkEntries entries + 1
  | .held _ => 1
def uptoBulkAll {H : Type} : List (DataW H) → Nat
  | [] => 0
  | d :: r => uptoBulk d + uptoBulkAll r
def uptoBulkEntries {H : Type} : List (Lit × DataW H) → Nat
  | [] => 0
  | x :: r => uptoBulkEntry x + uptoBulkEntries r
def uptoBulkEntry {H : Type} : Lit × DataW H → Nat
  | (.string bytes, d) => bytes.length + uptoBulk d + 1
  | (_, d) => uptoBulk d + 1
 end
def uptoSmall : (H : Type) → List (DataW H) → Bool := fun _ ds => decide (uptoBulkAll ds ≤ 1048576)
def OpenSpec.upto (s : _root_.Go.ChangeSpec) : _root_.Go.OpenSpec := { _root_.Go.OpenSpec.ofChange s with cond := some uptoSmall }

/-- 'revetmentlaw18.CoreVictim', WHERE WHAT IT READS IS OF BULK AT MOST 1048576: true; the input reads as it did. -/
def coreVictimUptoRow : OpenClaim := { program := "ytokpnommcenoaaagreat", sum := "01ed587a96be457c6b946a4704dbde405f85232a5c49cf9d8a0246c1d45d4787", func := "revetment/revetmentlaw18.CoreVictim", spec := "coreVictim", inPlace := ["slices.overlaps[revetment/plan.Event]"], unfollowed := true, recurses := true, plainKeys := false, apart := false, narrowed := true }
def CoreVictimUptoSaid : Prop := coreVictimUptoRow.holds Tryz.pinned (OpenSpec.upto coreVictimSpec)

/-- 'revetmentlaw19.ScrubDown', WHERE WHAT IT READS IS OF BULK AT MOST 1048576: true; the input reads as it did. -/
def scrubDownUptoRow : OpenClaim := { program := "ytokpnommcenoaaagreat", sum := "01ed587a96be457c6b946a4704dbde405f85232a5c49cf9d8a0246c1d45d4787", func := "revetment/revetmentlaw19.ScrubDown", spec := "scrubDown", inPlace := ["slices.overlaps[revetment/plan.Event]"], unfollowed := true, recurses := true, plainKeys := false, apart := false, narrowed := true }
def ScrubDownUptoSaid : Prop := scrubDownUptoRow.holds Tryz.pinned (OpenSpec.upto scrubDownSpec)

/-- 'revetmentlaw19.ScrubPasses', WHERE WHAT IT READS IS OF BULK AT MOST 1048576: true; the input reads as it did. -/
def scrubPassesUptoRow : OpenClaim := { program := "ytokpnommcenoaaagreat", sum := "01ed587a96be457c6b946a4704dbde405f85232a5c49cf9d8a0246c1d45d4787", func := "revetment/revetmentlaw19.ScrubPasses", spec := "scrubPasses", inPlace := ["slices.overlaps[revetment/plan.Event]"], unfollowed := true, recurses := true, plainKeys := false, apart := false, narrowed := true }
def ScrubPassesUptoSaid : Prop := scrubPassesUptoRow.holds Tryz.pinned (OpenSpec.upto scrubPassesSpec)

/-- 'revetmentlaw20.MountRaw', WHERE WHAT IT READS IS OF BULK AT MOST 1048576: true; the input reads as it did. -/
def mountRawUptoRow : OpenClaim := { program := "ytokpnommcenoaaagreat", sum := "01ed587a96be457c6b946a4704dbde405f85232a5c49cf9d8a0246c1d45d4787", func := "revetment/revetmentlaw20.MountRaw", spec := "mountRaw", inPlace := ["slices.overlaps[revetment/plan.Event]"], unfollowed := true, recurses := true, plainKeys := false, apart := false, narrowed := true }
def MountRawUptoSaid : Prop := mountRawUptoRow.holds Tryz.pinned (OpenSpec.upto mountRawSpec)

/-- 'revetmentlaw21.StoreStatus', WHERE WHAT IT READS IS OF BULK AT MOST 1048576: true; the input reads as it did. -/
def storeStatusUptoRow : OpenClaim := { program := "ytokpnommcenoaaagreat", sum := "01ed587a96be457c6b946a4704dbde405f85232a5c49cf9d8a0246c1d45d4787", func := "revetment/revetmentlaw21.StoreStatus", spec := "storeStatus", unfollowed := true, recurses := true, plainKeys := false, apart := false, narrowed := true }
def StoreStatusUptoSaid : Prop := storeStatusUptoRow.holds Tryz.pinned (OpenSpec.upto storeStatusSpec)

/-- 'revetmentlaw21.StoreFalls', WHERE WHAT IT READS IS OF BULK AT MOST 1048576: true; the input reads as it did. -/
def storeFallsUptoRow : OpenClaim := { program := "ytokpnommcenoaaagreat", sum := "01ed587a96be457c6b946a4704dbde405f85232a5c49cf9d8a0246c1d45d4787", func := "revetment/revetmentlaw21.StoreFalls", spec := "storeFalls", inPlace := ["slices.overlaps[revetment/plan.Event]"], unfollowed := true, recurses := true, plainKeys := false, apart := false, narrowed := true }
def StoreFallsUptoSaid : Prop := storeFallsUptoRow.holds Tryz.pinned (OpenSpec.upto storeFallsSpec)

/-- 'revetmentlaw21.StoreEmpty', WHERE WHAT IT READS IS OF BULK AT MOST 1048576: true; the input reads as it did. -/
def storeEmptyUptoRow : OpenClaim := { program := "ytokpnommcenoaaagreat", sum := "01ed587a96be457c6b946a4704dbde405f85232a5c49cf9d8a0246c1d45d4787", func := "revetment/revetmentlaw21.StoreEmpty", spec := "storeEmpty", inPlace := ["slices.overlaps[revetment/plan.Event]"], unfollowed := true, recurses := true, plainKeys := false, apart := false, narrowed := true }
def StoreEmptyUptoSaid : Prop := storeEmptyUptoRow.holds Tryz.pinned (OpenSpec.upto storeEmptySpec)

end Rows
end Go.Proofs.YtokpnommcenoaaaGreat
