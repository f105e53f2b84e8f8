/-
  No cell of these rows narrows 'for every input' (looked for: loops, veiled, ifaces, maps, wideKeys, modest, calm, conditions, laid).
  DERIVED. THE GIVEN ROWS OF THIS SEAT. 8 by the template 'for every input the law returns true; each argument reads behind the call as it read before'; 0 by the template 'total and deterministic' (their statements: YtpkcfamminlmaaaGreatTotals.lean).
  GIVEN WITH THE SEED: the statements are not yours to turn. If you find one false, say at which input.
  Laid BY PROGRAM, IN A SANDBOX (cutbox-rows.mjs): the forced cells as the released guide's own fill.sh prints them over the translation bcdd274cb30d1e01… (all of the seat's roots in one cut). By AI agents, Wed Nov 11 2026. No macro, syntax, notation, axiom, sorry.
-/
import Derived.Test.YtpkcfamminlmaaaGreatChecked
import GoSem.Claim
import GoSem.ClaimJoined
import GoSem.ClaimMapViews
import Derived.JoinedTies
import Derived.KernelRfl
namespace Go.Proofs.YtpkcfamminlmaaaGreat
/- THE CELL 'sum', in the pinned program and in every row, IS THE sha256 OF THE DUMP (.gsa) THAT YtpkcfamminlmaaaGreatProg.lean LOADS. Nothing in Lean hashes anything: it is a label: what it is worth is what the hold of that sum in a sandbox is worth. -/
noncomputable def Tryz.pinned : Pinned := { name := "ytpkcfamminlmaaagreat", sum := "bcdd274cb30d1e015ab839e8b8b25f2d61b3d84ccad5944bdace8f4b4cc830eb", checked := Tryz.checked }
namespace Rows
def none {H : Type} : Left H := { results := [], args := [] }

/-- 'revetmentlaw15.AreaTurns': WHATEVER THE INPUT: true; the input reads as it did. -/
def areaTurnsSpec : ChangeSpec := { name := "areaTurns", fn := fun _ => fun
  | [d1, d2] => { results := [.lit (.bool true)], args := [d1, d2] }
  | _ => none }
def areaTurnsRow : OpenClaim := { program := "ytpkcfamminlmaaagreat", sum := "bcdd274cb30d1e015ab839e8b8b25f2d61b3d84ccad5944bdace8f4b4cc830eb", func := "revetment/revetmentlaw15.AreaTurns", spec := "areaTurns", unfollowed := true, recurses := true, plainKeys := false, apart := false }
def AreaTurnsSaid : Prop := areaTurnsRow.holds Tryz.pinned (OpenSpec.ofChange areaTurnsSpec)

/-- ITS FALSE NEIGHBOUR: 'it returns false'. Refute it at one input. -/
def areaTurnsWrong : ChangeSpec := { name := "areaTurns", fn := fun _ => fun
  | [d1, d2] => { results := [.lit (.bool false)], args := [d1, d2] }
  | _ => none }
def AreaTurnsWrongFalsely : Prop := areaTurnsRow.holds Tryz.pinned (OpenSpec.ofChange areaTurnsWrong)

/-- 'revetmentlaw15.AreaBad': WHATEVER THE INPUT: true; the input reads as it did. -/
def areaBadSpec : ChangeSpec := { name := "areaBad", fn := fun _ => fun
  | [d1, d2, d3] => { results := [.lit (.bool true)], args := [d1, d2, d3] }
  | _ => none }
def areaBadRow : OpenClaim := { program := "ytpkcfamminlmaaagreat", sum := "bcdd274cb30d1e015ab839e8b8b25f2d61b3d84ccad5944bdace8f4b4cc830eb", func := "revetment/revetmentlaw15.AreaBad", spec := "areaBad", unfollowed := true, recurses := true, plainKeys := false, apart := false }
def AreaBadSaid : Prop := areaBadRow.holds Tryz.pinned (OpenSpec.ofChange areaBadSpec)

/-- ITS FALSE NEIGHBOUR: 'it returns false'. Refute it at one input. -/
def areaBadWrong : ChangeSpec := { name := "areaBad", fn := fun _ => fun
  | [d1, d2, d3] => { results := [.lit (.bool false)], args := [d1, d2, d3] }
  | _ => none }
def AreaBadWrongFalsely : Prop := areaBadRow.holds Tryz.pinned (OpenSpec.ofChange areaBadWrong)

/-- 'revetmentlaw14.MirrorBegins': WHATEVER THE INPUT: true; the input reads as it did. -/
def mirrorBeginsSpec : ChangeSpec := { name := "mirrorBegins", fn := fun _ => fun
  | [d1, d2, d3] => { results := [.lit (.bool true)], args := [d1, d2, d3] }
  | _ => none }
def mirrorBeginsRow : OpenClaim := { program := "ytpkcfamminlmaaagreat", sum := "bcdd274cb30d1e015ab839e8b8b25f2d61b3d84ccad5944bdace8f4b4cc830eb", func := "revetment/revetmentlaw14.MirrorBegins", spec := "mirrorBegins", unfollowed := true, recurses := true, plainKeys := false, apart := false }
def MirrorBeginsSaid : Prop := mirrorBeginsRow.holds Tryz.pinned (OpenSpec.ofChange mirrorBeginsSpec)

/-- ITS FALSE NEIGHBOUR: 'it returns false'. Refute it at one input. -/
def mirrorBeginsWrong : ChangeSpec := { name := "mirrorBegins", fn := fun _ => fun
  | [d1, d2, d3] => { results := [.lit (.bool false)], args := [d1, d2, d3] }
  | _ => none }
def MirrorBeginsWrongFalsely : Prop := mirrorBeginsRow.holds Tryz.pinned (OpenSpec.ofChange mirrorBeginsWrong)

/-- 'revetmentlaw14.MirrorTrims': WHATEVER THE INPUT: true; the input reads as it did. -/
def mirrorTrimsSpec : ChangeSpec := { name := "mirrorTrims", fn := fun _ => fun
  | [d1, d2, d3, d4] => { results := [.lit (.bool true)], args := [d1, d2, d3, d4] }
  | _ => none }
def mirrorTrimsRow : OpenClaim := { program := "ytpkcfamminlmaaagreat", sum := "bcdd274cb30d1e015ab839e8b8b25f2d61b3d84ccad5944bdace8f4b4cc830eb", func := "revetment/revetmentlaw14.MirrorTrims", spec := "mirrorTrims", unfollowed := true, recurses := true, plainKeys := false, apart := false }
def MirrorTrimsSaid : Prop := mirrorTrimsRow.holds Tryz.pinned (OpenSpec.ofChange mirrorTrimsSpec)

/-- ITS FALSE NEIGHBOUR: 'it returns false'. Refute it at one input. -/
def mirrorTrimsWrong : ChangeSpec := { name := "mirrorTrims", fn := fun _ => fun
  | [d1, d2, d3, d4] => { results := [.lit (.bool false)], args := [d1, d2, d3, d4] }
  | _ => none }
def MirrorTrimsWrongFalsely : Prop := mirrorTrimsRow.holds Tryz.pinned (OpenSpec.ofChange mirrorTrimsWrong)

/-- 'revetmentlaw14.MirrorSafe': WHATEVER THE INPUT: true; the input reads as it did. -/
def mirrorSafeSpec : ChangeSpec := { name := "mirrorSafe", fn := fun _ => fun
  | [d1, d2, d3, d4] => { results := [.lit (.bool true)], args := [d1, d2, d3, d4] }
  | _ => none }
def mirrorSafeRow : OpenClaim := { program := "ytpkcfamminlmaaagreat", sum := "bcdd274cb30d1e015ab839e8b8b25f2d61b3d84ccad5944bdace8f4b4cc830eb", func := "revetment/revetmentlaw14.MirrorSafe", spec := "mirrorSafe", unfollowed := true, recurses := true, plainKeys := false, apart := false }
def MirrorSafeSaid : Prop := mirrorSafeRow.holds Tryz.pinned (OpenSpec.ofChange mirrorSafeSpec)

/-- ITS FALSE NEIGHBOUR: 'it returns false'. Refute it at one input. -/
def mirrorSafeWrong : ChangeSpec := { name := "mirrorSafe", fn := fun _ => fun
  | [d1, d2, d3, d4] => { results := [.lit (.bool false)], args := [d1, d2, d3, d4] }
  | _ => none }
def MirrorSafeWrongFalsely : Prop := mirrorSafeRow.holds Tryz.pinned (OpenSpec.ofChange mirrorSafeWrong)

/-- 'revetmentlaw14.MirrorApart': WHATEVER THE INPUT: true; the input reads as it did. -/
def mirrorApartSpec : ChangeSpec := { name := "mirrorApart", fn := fun _ => fun
  | [d1, d2, d3, d4] => { results := [.lit (.bool true)], args := [d1, d2, d3, d4] }
  | _ => none }
def mirrorApartRow : OpenClaim := { program := "ytpkcfamminlmaaagreat", sum := "bcdd274cb30d1e015ab839e8b8b25f2d61b3d84ccad5944bdace8f4b4cc830eb", func := "revetment/revetmentlaw14.MirrorApart", spec := "mirrorApart", inPlace := ["slices.overlaps[revetment/plan.Event]"], unfollowed := true, recurses := true, plainKeys := false, apart := false }
def MirrorApartSaid : Prop := mirrorApartRow.holds Tryz.pinned (OpenSpec.ofChange mirrorApartSpec)

/-- ITS FALSE NEIGHBOUR: 'it returns false'. Refute it at one input. -/
def mirrorApartWrong : ChangeSpec := { name := "mirrorApart", fn := fun _ => fun
  | [d1, d2, d3, d4] => { results := [.lit (.bool false)], args := [d1, d2, d3, d4] }
  | _ => none }
def MirrorApartWrongFalsely : Prop := mirrorApartRow.holds Tryz.pinned (OpenSpec.ofChange mirrorApartWrong)

/-- 'revetmentlaw16.ScanPlaced': WHATEVER THE INPUT: true; the input reads as it did. -/
def scanPlacedSpec : ChangeSpec := { name := "scanPlaced", fn := fun _ => fun
  | [d1, d2, d3, d4] => { results := [.lit (.bool true)], args := [d1, d2, d3, d4] }
  | _ => none }
def scanPlacedRow : OpenClaim := { program := "ytpkcfamminlmaaagreat", sum := "bcdd274cb30d1e015ab839e8b8b25f2d61b3d84ccad5944bdace8f4b4cc830eb", func := "revetment/revetmentlaw16.ScanPlaced", spec := "scanPlaced", unfollowed := true, recurses := true, plainKeys := false, apart := false }
def ScanPlacedSaid : Prop := scanPlacedRow.holds Tryz.pinned (OpenSpec.ofChange scanPlacedSpec)

/-- ITS FALSE NEIGHBOUR: 'it returns false'. Refute it at one input. -/
def scanPlacedWrong : ChangeSpec := { name := "scanPlaced", fn := fun _ => fun
  | [d1, d2, d3, d4] => { results := [.lit (.bool false)], args := [d1, d2, d3, d4] }
  | _ => none }
def ScanPlacedWrongFalsely : Prop := scanPlacedRow.holds Tryz.pinned (OpenSpec.ofChange scanPlacedWrong)

/-- 'revetmentlaw15.AreaKeeps': WHATEVER THE INPUT: true; the input reads as it did. -/
def areaKeepsSpec : ChangeSpec := { name := "areaKeeps", fn := fun _ => fun
  | [d1, d2, d3] => { results := [.lit (.bool true)], args := [d1, d2, d3] }
  | _ => none }
def areaKeepsRow : OpenClaim := { program := "ytpkcfamminlmaaagreat", sum := "bcdd274cb30d1e015ab839e8b8b25f2d61b3d84ccad5944bdace8f4b4cc830eb", func := "revetment/revetmentlaw15.AreaKeeps", spec := "areaKeeps", inPlace := ["slices.overlaps[revetment/plan.Event]"], unfollowed := true, recurses := true, plainKeys := false, apart := false }
def AreaKeepsSaid : Prop := areaKeepsRow.holds Tryz.pinned (OpenSpec.ofChange areaKeepsSpec)

/-- ITS FALSE NEIGHBOUR: 'it returns false'. Refute it at one input. -/
def areaKeepsWrong : ChangeSpec := { name := "areaKeeps", fn := fun _ => fun
  | [d1, d2, d3] => { results := [.lit (.bool false)], args := [d1, d2, d3] }
  | _ => none }
def AreaKeepsWrongFalsely : Prop := areaKeepsRow.holds Tryz.pinned (OpenSpec.ofChange areaKeepsWrong)

/- THE SECOND FORM. 'bulk': how many values and letters a reading holds, each counted each time it is reached (what is shared counts as often as it is met; a slice's spare places count too). A statement '..UptoSaid' is the law's where the arguments, and the package variables that the reading takes, are together of bulk at most 1048576: NARROWER than '..Said'. Prove '..Said' where nothing that the law and all that it calls make is longer than what came in: it says more and counts as full. Else prove '..UptoSaid'. A law counts once. -/
mutual
def uptoBulk {H : Type} : DataW H → Nat
  | .lit (.string bytes) => bytes.length + 1
  | .lit _ => 1
  | .nil => 1
  | .ptr d => uptoBulk d + 1
  | .slice elems spare => uptoBulkAll elems + uptoBulkAll spare + 1
  | .agg parts => uptoBulkAll parts + 1
  | .iface _ d => uptoBulk d + 1
  | .map entries => uptoBulkEntries entries + 1
  | .held _ => 1
def uptoBulkAll {H : Type} : List (DataW H) → Nat
  | [] => 0
  | d :: r => uptoBulk d + uptoBulkAll r
def uptoBulkEntries {H : Type} : List (Lit × DataW H) → Nat
  | [] => 0
  | x :: r => uptoBulkEntry x + uptoBulkEntries r
def uptoBulkEntry {H : Type} : Lit × DataW H → Nat
  | (.string bytes, d) => bytes.length + uptoBulk d + 1
  | (_, d) => uptoBulk d + 1
 end
def uptoSmall : (H : Type) → List (DataW H) → Bool := fun _ ds => decide (uptoBulkAll ds ≤ 1048576)
def OpenSpec.upto (s : _root_.Go.ChangeSpec) : _root_.Go.OpenSpec := { _root_.Go.OpenSpec.ofChange s with cond := some uptoSmall }

/-- 'revetmentlaw15.AreaTurns', WHERE WHAT IT READS IS OF BULK AT MOST 1048576: true; the input reads as it did. -/
def areaTurnsUptoRow : OpenClaim := { program := "ytpkcfamminlmaaagreat", sum := "bcdd274cb30d1e015ab839e8b8b25f2d61b3d84ccad5944bdace8f4b4cc830eb", func := "revetment/revetmentlaw15.AreaTurns", spec := "areaTurns", unfollowed := true, recurses := true, plainKeys := false, apart := false, narrowed := true }
def AreaTurnsUptoSaid : Prop := areaTurnsUptoRow.holds Tryz.pinned (OpenSpec.upto areaTurnsSpec)

/-- 'revetmentlaw15.AreaBad', WHERE WHAT IT READS IS OF BULK AT MOST 1048576: true; the input reads as it did. -/
def areaBadUptoRow : OpenClaim := { program := "ytpkcfamminlmaaagreat", sum := "bcdd274cb30d1e015ab839e8b8b25f2d61b3d84ccad5944bdace8f4b4cc830eb", func := "revetment/revetmentlaw15.AreaBad", spec := "areaBad", unfollowed := true, recurses := true, plainKeys := false, apart := false, narrowed := true }
def AreaBadUptoSaid : Prop := areaBadUptoRow.holds Tryz.pinned (OpenSpec.upto areaBadSpec)

/-- 'revetmentlaw14.MirrorBegins', WHERE WHAT IT READS IS OF BULK AT MOST 1048576: true; the input reads as it did. -/
def mirrorBeginsUptoRow : OpenClaim := { program := "ytpkcfamminlmaaagreat", sum := "bcdd274cb30d1e015ab839e8b8b25f2d61b3d84ccad5944bdace8f4b4cc830eb", func := "revetment/revetmentlaw14.MirrorBegins", spec := "mirrorBegins", unfollowed := true, recurses := true, plainKeys := false, apart := false, narrowed := true }
def MirrorBeginsUptoSaid : Prop := mirrorBeginsUptoRow.holds Tryz.pinned (OpenSpec.upto mirrorBeginsSpec)

/-- 'revetmentlaw14.MirrorTrims', WHERE WHAT IT READS IS OF BULK AT MOST 1048576: true; the input reads as it did. -/
def mirrorTrimsUptoRow : OpenClaim := { program := "ytpkcfamminlmaaagreat", sum := "bcdd274cb30d1e015ab839e8b8b25f2d61b3d84ccad5944bdace8f4b4cc830eb", func := "revetment/revetmentlaw14.MirrorTrims", spec := "mirrorTrims", unfollowed := true, recurses := true, plainKeys := false, apart := false, narrowed := true }
def MirrorTrimsUptoSaid : Prop := mirrorTrimsUptoRow.holds Tryz.pinned (OpenSpec.upto mirrorTrimsSpec)

/-- 'revetmentlaw14.MirrorSafe', WHERE WHAT IT READS IS OF BULK AT MOST 1048576: true; the input reads as it did. -/
def mirrorSafeUptoRow : OpenClaim := { program := "ytpkcfamminlmaaagreat", sum := "bcdd274cb30d1e015ab839e8b8b25f2d61b3d84ccad5944bdace8f4b4cc830eb", func := "revetment/revetmentlaw14.MirrorSafe", spec := "mirrorSafe", unfollowed := true, recurses := true, plainKeys := false, apart := false, narrowed := true }
def MirrorSafeUptoSaid : Prop := mirrorSafeUptoRow.holds Tryz.pinned (OpenSpec.upto mirrorSafeSpec)

/-- 'revetmentlaw14.MirrorApart', WHERE WHAT IT READS IS OF BULK AT MOST 1048576: true; the input reads as it did. -/
def mirrorApartUptoRow : OpenClaim := { program := "ytpkcfamminlmaaagreat", sum := "bcdd274cb30d1e015ab839e8b8b25f2d61b3d84ccad5944bdace8f4b4cc830eb", func := "revetment/revetmentlaw14.MirrorApart", spec := "mirrorApart", inPlace := ["slices.overlaps[revetment/plan.Event]"], unfollowed := true, recurses := true, plainKeys := false, apart := false, narrowed := true }
def MirrorApartUptoSaid : Prop := mirrorApartUptoRow.holds Tryz.pinned (OpenSpec.upto mirrorApartSpec)

/-- 'revetmentlaw16.ScanPlaced', WHERE WHAT IT READS IS OF BULK AT MOST 1048576: true; the input reads as it did. -/
def scanPlacedUptoRow : OpenClaim := { program := "ytpkcfamminlmaaagreat", sum := "bcdd274cb30d1e015ab839e8b8b25f2d61b3d84ccad5944bdace8f4b4cc830eb", func := "revetment/revetmentlaw16.ScanPlaced", spec := "scanPlaced", unfollowed := true, recurses := true, plainKeys := false, apart := false, narrowed := true }
def ScanPlacedUptoSaid : Prop := scanPlacedUptoRow.holds Tryz.pinned (OpenSpec.upto scanPlacedSpec)

/-- 'revetmentlaw15.AreaKeeps', WHERE WHAT IT READS IS OF BULK AT MOST 1048576: true; the input reads as it did. -/
def areaKeepsUptoRow : OpenClaim := { program := "ytpkcfamminlmaaagreat", sum := "bcdd274cb30d1e015ab839e8b8b25f2d61b3d84ccad5944bdace8f4b4cc830eb", func := "revetment/revetmentlaw15.AreaKeeps", spec := "areaKeeps", inPlace := ["slices.overlaps[revetment/plan.Event]"], unfollowed := true, recurses := true, plainKeys := false, apart := false, narrowed := true }
def AreaKeepsUptoSaid : Prop := areaKeepsUptoRow.holds Tryz.pinned (OpenSpec.upto areaKeepsSpec)

end Rows
end Go.Proofs.YtpkcfamminlmaaaGreat
