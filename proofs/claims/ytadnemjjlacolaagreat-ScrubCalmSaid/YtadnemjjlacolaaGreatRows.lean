/-
  No cell of these rows narrows 'for every input' (looked for: loops, veiled, ifaces, maps, wideKeys, modest, calm, conditions, laid).
  DERIVED. THE GIVEN ROWS OF THIS SEAT. 8 by the template 'for every input the law returns true; each argument reads behind the call as it read before'; 0 by the template 'total and deterministic' (their statements: YtadnemjjlacolaaGreatTotals.lean).
  GIVEN WITH THE SEED: the statements are not yours to turn. If you find one false, say at which input.
  Laid BY PROGRAM, IN A SANDBOX (cutbox-rows.mjs): the forced cells as the released guide's own fill.sh prints them over the translation d9ad2d1ed7a86492… (all of the seat's roots in one cut). By AI agents, Wed Nov 11 2026. No macro, syntax, notation, axiom, sorry.
-/
import Derived.Test.YtadnemjjlacolaaGreatChecked
import GoSem.Claim
import GoSem.ClaimJoined
import GoSem.ClaimMapViews
import Derived.JoinedTies
import Derived.KernelRfl
namespace Go.Proofs.YtadnemjjlacolaaGreat
/- THE CELL 'sum', in the pinned program and in every row, IS THE sha256 OF THE DUMP (.gsa) THAT YtadnemjjlacolaaGreatProg.lean LOADS. Nothing in Lean hashes anything: it is a label: what it is worth is what the hold of that sum in a sandbox is worth. -/
noncomputable def Tryz.pinned : Pinned := { name := "ytadnemjjlacolaagreat", sum := "d9ad2d1ed7a8649250031850fad0ffd0a650068899f2994ed064294aada2f706", checked := Tryz.checked }
namespace Rows
def none {H : Type} : Left H := { results := [], args := [] }

/-- 'revetmentlaw18.CoreCopies': WHATEVER THE INPUT: true; the input reads as it did. -/
def coreCopiesSpec : ChangeSpec := { name := "coreCopies", fn := fun _ => fun
  | [d1, d2] => { results := [.lit (.bool true)], args := [d1, d2] }
  | _ => none }
def coreCopiesRow : OpenClaim := { program := "ytadnemjjlacolaagreat", sum := "d9ad2d1ed7a8649250031850fad0ffd0a650068899f2994ed064294aada2f706", func := "revetment/revetmentlaw18.CoreCopies", spec := "coreCopies", inPlace := ["slices.overlaps[revetment/plan.Event]"], unfollowed := true, recurses := true, plainKeys := false, apart := false }
def CoreCopiesSaid : Prop := coreCopiesRow.holds Tryz.pinned (OpenSpec.ofChange coreCopiesSpec)

/-- ITS FALSE NEIGHBOUR: 'it returns false'. Refute it at one input. -/
def coreCopiesWrong : ChangeSpec := { name := "coreCopies", fn := fun _ => fun
  | [d1, d2] => { results := [.lit (.bool false)], args := [d1, d2] }
  | _ => none }
def CoreCopiesWrongFalsely : Prop := coreCopiesRow.holds Tryz.pinned (OpenSpec.ofChange coreCopiesWrong)

/-- 'revetmentlaw18.CoreRoom': WHATEVER THE INPUT: true; the input reads as it did. -/
def coreRoomSpec : ChangeSpec := { name := "coreRoom", fn := fun _ => fun
  | [d1, d2, d3] => { results := [.lit (.bool true)], args := [d1, d2, d3] }
  | _ => none }
def coreRoomRow : OpenClaim := { program := "ytadnemjjlacolaagreat", sum := "d9ad2d1ed7a8649250031850fad0ffd0a650068899f2994ed064294aada2f706", func := "revetment/revetmentlaw18.CoreRoom", spec := "coreRoom", inPlace := ["slices.overlaps[revetment/plan.Event]"], unfollowed := true, recurses := true, plainKeys := false, apart := false }
def CoreRoomSaid : Prop := coreRoomRow.holds Tryz.pinned (OpenSpec.ofChange coreRoomSpec)

/-- ITS FALSE NEIGHBOUR: 'it returns false'. Refute it at one input. -/
def coreRoomWrong : ChangeSpec := { name := "coreRoom", fn := fun _ => fun
  | [d1, d2, d3] => { results := [.lit (.bool false)], args := [d1, d2, d3] }
  | _ => none }
def CoreRoomWrongFalsely : Prop := coreRoomRow.holds Tryz.pinned (OpenSpec.ofChange coreRoomWrong)

/-- 'revetmentlaw18.CoreCleans': WHATEVER THE INPUT: true; the input reads as it did. -/
def coreCleansSpec : ChangeSpec := { name := "coreCleans", fn := fun _ => fun
  | [d1, d2, d3] => { results := [.lit (.bool true)], args := [d1, d2, d3] }
  | _ => none }
def coreCleansRow : OpenClaim := { program := "ytadnemjjlacolaagreat", sum := "d9ad2d1ed7a8649250031850fad0ffd0a650068899f2994ed064294aada2f706", func := "revetment/revetmentlaw18.CoreCleans", spec := "coreCleans", inPlace := ["slices.overlaps[revetment/plan.Event]"], unfollowed := true, recurses := true, plainKeys := false, apart := false }
def CoreCleansSaid : Prop := coreCleansRow.holds Tryz.pinned (OpenSpec.ofChange coreCleansSpec)

/-- ITS FALSE NEIGHBOUR: 'it returns false'. Refute it at one input. -/
def coreCleansWrong : ChangeSpec := { name := "coreCleans", fn := fun _ => fun
  | [d1, d2, d3] => { results := [.lit (.bool false)], args := [d1, d2, d3] }
  | _ => none }
def CoreCleansWrongFalsely : Prop := coreCleansRow.holds Tryz.pinned (OpenSpec.ofChange coreCleansWrong)

/-- 'revetmentlaw18.CoreTrims': WHATEVER THE INPUT: true; the input reads as it did. -/
def coreTrimsSpec : ChangeSpec := { name := "coreTrims", fn := fun _ => fun
  | [d1, d2, d3, d4] => { results := [.lit (.bool true)], args := [d1, d2, d3, d4] }
  | _ => none }
def coreTrimsRow : OpenClaim := { program := "ytadnemjjlacolaagreat", sum := "d9ad2d1ed7a8649250031850fad0ffd0a650068899f2994ed064294aada2f706", func := "revetment/revetmentlaw18.CoreTrims", spec := "coreTrims", inPlace := ["slices.overlaps[revetment/plan.Event]"], unfollowed := true, recurses := true, plainKeys := false, apart := false }
def CoreTrimsSaid : Prop := coreTrimsRow.holds Tryz.pinned (OpenSpec.ofChange coreTrimsSpec)

/-- ITS FALSE NEIGHBOUR: 'it returns false'. Refute it at one input. -/
def coreTrimsWrong : ChangeSpec := { name := "coreTrims", fn := fun _ => fun
  | [d1, d2, d3, d4] => { results := [.lit (.bool false)], args := [d1, d2, d3, d4] }
  | _ => none }
def CoreTrimsWrongFalsely : Prop := coreTrimsRow.holds Tryz.pinned (OpenSpec.ofChange coreTrimsWrong)

/-- 'revetmentlaw18.CoreNumbers': WHATEVER THE INPUT: true; the input reads as it did. -/
def coreNumbersSpec : ChangeSpec := { name := "coreNumbers", fn := fun _ => fun
  | [d1, d2] => { results := [.lit (.bool true)], args := [d1, d2] }
  | _ => none }
def coreNumbersRow : OpenClaim := { program := "ytadnemjjlacolaagreat", sum := "d9ad2d1ed7a8649250031850fad0ffd0a650068899f2994ed064294aada2f706", func := "revetment/revetmentlaw18.CoreNumbers", spec := "coreNumbers", inPlace := ["slices.overlaps[revetment/plan.Event]"], unfollowed := true, recurses := true, plainKeys := false, apart := false }
def CoreNumbersSaid : Prop := coreNumbersRow.holds Tryz.pinned (OpenSpec.ofChange coreNumbersSpec)

/-- ITS FALSE NEIGHBOUR: 'it returns false'. Refute it at one input. -/
def coreNumbersWrong : ChangeSpec := { name := "coreNumbers", fn := fun _ => fun
  | [d1, d2] => { results := [.lit (.bool false)], args := [d1, d2] }
  | _ => none }
def CoreNumbersWrongFalsely : Prop := coreNumbersRow.holds Tryz.pinned (OpenSpec.ofChange coreNumbersWrong)

/-- 'revetmentlaw18.CoreTidies': WHATEVER THE INPUT: true; the input reads as it did. -/
def coreTidiesSpec : ChangeSpec := { name := "coreTidies", fn := fun _ => fun
  | [d1, d2, d3] => { results := [.lit (.bool true)], args := [d1, d2, d3] }
  | _ => none }
def coreTidiesRow : OpenClaim := { program := "ytadnemjjlacolaagreat", sum := "d9ad2d1ed7a8649250031850fad0ffd0a650068899f2994ed064294aada2f706", func := "revetment/revetmentlaw18.CoreTidies", spec := "coreTidies", inPlace := ["slices.overlaps[revetment/plan.Event]"], unfollowed := true, recurses := true, plainKeys := false, apart := false }
def CoreTidiesSaid : Prop := coreTidiesRow.holds Tryz.pinned (OpenSpec.ofChange coreTidiesSpec)

/-- ITS FALSE NEIGHBOUR: 'it returns false'. Refute it at one input. -/
def coreTidiesWrong : ChangeSpec := { name := "coreTidies", fn := fun _ => fun
  | [d1, d2, d3] => { results := [.lit (.bool false)], args := [d1, d2, d3] }
  | _ => none }
def CoreTidiesWrongFalsely : Prop := coreTidiesRow.holds Tryz.pinned (OpenSpec.ofChange coreTidiesWrong)

/-- 'revetmentlaw18.CoreIdeal': WHATEVER THE INPUT: true; the input reads as it did. -/
def coreIdealSpec : ChangeSpec := { name := "coreIdeal", fn := fun _ => fun
  | [d1, d2] => { results := [.lit (.bool true)], args := [d1, d2] }
  | _ => none }
def coreIdealRow : OpenClaim := { program := "ytadnemjjlacolaagreat", sum := "d9ad2d1ed7a8649250031850fad0ffd0a650068899f2994ed064294aada2f706", func := "revetment/revetmentlaw18.CoreIdeal", spec := "coreIdeal", inPlace := ["slices.overlaps[revetment/plan.Event]"], unfollowed := true, recurses := true, plainKeys := false, apart := false }
def CoreIdealSaid : Prop := coreIdealRow.holds Tryz.pinned (OpenSpec.ofChange coreIdealSpec)

/-- ITS FALSE NEIGHBOUR: 'it returns false'. Refute it at one input. -/
def coreIdealWrong : ChangeSpec := { name := "coreIdeal", fn := fun _ => fun
  | [d1, d2] => { results := [.lit (.bool false)], args := [d1, d2] }
  | _ => none }
def CoreIdealWrongFalsely : Prop := coreIdealRow.holds Tryz.pinned (OpenSpec.ofChange coreIdealWrong)

/-- 'revetmentlaw19.ScrubCalm': WHATEVER THE INPUT: true; the input reads as it did. -/
def scrubCalmSpec : ChangeSpec := { name := "scrubCalm", fn := fun _ => fun
  | [d1, d2] => { results := [.lit (.bool true)], args := [d1, d2] }
  | _ => none }
def scrubCalmRow : OpenClaim := { program := "ytadnemjjlacolaagreat", sum := "d9ad2d1ed7a8649250031850fad0ffd0a650068899f2994ed064294aada2f706", func := "revetment/revetmentlaw19.ScrubCalm", spec := "scrubCalm", inPlace := ["slices.overlaps[revetment/plan.Event]"], unfollowed := true, recurses := true, plainKeys := false, apart := false }
def ScrubCalmSaid : Prop := scrubCalmRow.holds Tryz.pinned (OpenSpec.ofChange scrubCalmSpec)

/-- ITS FALSE NEIGHBOUR: 'it returns false'. Refute it at one input. -/
def scrubCalmWrong : ChangeSpec := { name := "scrubCalm", fn := fun _ => fun
  | [d1, d2] => { results := [.lit (.bool false)], args := [d1, d2] }
  | _ => none }
def ScrubCalmWrongFalsely : Prop := scrubCalmRow.holds Tryz.pinned (OpenSpec.ofChange scrubCalmWrong)

/- THE SECOND FORM. 'bulk': how many values and letters a reading holds, each counted each time it is reached (what is shared counts as often as it is met; a slice's spare places count too). A statement '..UptoSaid' is the law's where the arguments, and the package variables that the reading takes, are together of bulk at most 1048576: NARROWER than '..Said'. Prove '..Said' where nothing that the law and all that it calls make is longer than what came in: it says more and counts as full. Else prove '..UptoSaid'. A law counts once. -/
mutual
def uptoBulk {H : Type} : DataW H → Nat
  | .lit (.string bytes) => bytes.length + 1
  | .lit _ => 1
  | .nil => 1
  | .ptr d => uptoBulk d + 1
  | .slice elems spare => uptoBulkAll elems + uptoBulkAll spare + 1
  | .agg parts => uptoBulkAll parts + 1
  | .iface _ d => uptoBulk d + 1
  | .map entries => uptoBulkEntries entries + 1
  | .held _ => 1
def uptoBulkAll {H : Type} : List (DataW H) → Nat
  | [] => 0
  | d :: r => uptoBulk d + uptoBulkAll r
def uptoBulkEntries {H : Type} : List (Lit × DataW H) → Nat
  | [] => 0
  | x :: r => uptoBulkEntry x + uptoBulkEntries r
def uptoBulkEntry {H : Type} : Lit × DataW H → Nat
  | (.string bytes, d) => bytes.length + uptoBulk d + 1
  | (_, d) => uptoBulk d + 1
 end
def uptoSmall : (H : Type) → List (DataW H) → Bool := fun _ ds => decide (uptoBulkAll ds ≤ 1048576)
def OpenSpec.upto (s : _root_.Go.ChangeSpec) : _root_.Go.OpenSpec := { _root_.Go.OpenSpec.ofChange s with cond := some uptoSmall }

/-- 'revetmentlaw18.CoreCopies', WHERE WHAT IT READS IS OF BULK AT MOST 1048576: true; the input reads as it did. -/
def coreCopiesUptoRow : OpenClaim := { program := "ytadnemjjlacolaagreat", sum := "d9ad2d1ed7a8649250031850fad0ffd0a650068899f2994ed064294aada2f706", func := "revetment/revetmentlaw18.CoreCopies", spec := "coreCopies", inPlace := ["slices.overlaps[revetment/plan.Event]"], unfollowed := true, recurses := true, plainKeys := false, apart := false, narrowed := true }
def CoreCopiesUptoSaid : Prop := coreCopiesUptoRow.holds Tryz.pinned (OpenSpec.upto coreCopiesSpec)

/-- 'revetmentlaw18.CoreRoom', WHERE WHAT IT READS IS OF BULK AT MOST 1048576: true; the input reads as it did. -/
def coreRoomUptoRow : OpenClaim := { program := "ytadnemjjlacolaagreat", sum := "d9ad2d1ed7a8649250031850fad0ffd0a650068899f2994ed064294aada2f706", func := "revetment/revetmentlaw18.CoreRoom", spec := "coreRoom", inPlace := ["slices.overlaps[revetment/plan.Event]"], unfollowed := true, recurses := true, plainKeys := false, apart := false, narrowed := true }
def CoreRoomUptoSaid : Prop := coreRoomUptoRow.holds Tryz.pinned (OpenSpec.upto coreRoomSpec)

/-- 'revetmentlaw18.CoreCleans', WHERE WHAT IT READS IS OF BULK AT MOST 1048576: true; the input reads as it did. -/
def coreCleansUptoRow : OpenClaim := { program := "ytadnemjjlacolaagreat", sum := "d9ad2d1ed7a8649250031850fad0ffd0a650068899f2994ed064294aada2f706", func := "revetment/revetmentlaw18.CoreCleans", spec := "coreCleans", inPlace := ["slices.overlaps[revetment/plan.Event]"], unfollowed := true, recurses := true, plainKeys := false, apart := false, narrowed := true }
def CoreCleansUptoSaid : Prop := coreCleansUptoRow.holds Tryz.pinned (OpenSpec.upto coreCleansSpec)

/-- 'revetmentlaw18.CoreTrims', WHERE WHAT IT READS IS OF BULK AT MOST 1048576: true; the input reads as it did. -/
def coreTrimsUptoRow : OpenClaim := { program := "ytadnemjjlacolaagreat", sum := "d9ad2d1ed7a8649250031850fad0ffd0a650068899f2994ed064294aada2f706", func := "revetment/revetmentlaw18.CoreTrims", spec := "coreTrims", inPlace := ["slices.overlaps[revetment/plan.Event]"], unfollowed := true, recurses := true, plainKeys := false, apart := false, narrowed := true }
def CoreTrimsUptoSaid : Prop := coreTrimsUptoRow.holds Tryz.pinned (OpenSpec.upto coreTrimsSpec)

/-- 'revetmentlaw18.CoreNumbers', WHERE WHAT IT READS IS OF BULK AT MOST 1048576: true; the input reads as it did. -/
def coreNumbersUptoRow : OpenClaim := { program := "ytadnemjjlacolaagreat", sum := "d9ad2d1ed7a8649250031850fad0ffd0a650068899f2994ed064294aada2f706", func := "revetment/revetmentlaw18.CoreNumbers", spec := "coreNumbers", inPlace := ["slices.overlaps[revetment/plan.Event]"], unfollowed := true, recurses := true, plainKeys := false, apart := false, narrowed := true }
def CoreNumbersUptoSaid : Prop := coreNumbersUptoRow.holds Tryz.pinned (OpenSpec.upto coreNumbersSpec)

/-- 'revetmentlaw18.CoreTidies', WHERE WHAT IT READS IS OF BULK AT MOST 1048576: true; the input reads as it did. -/
def coreTidiesUptoRow : OpenClaim := { program := "ytadnemjjlacolaagreat", sum := "d9ad2d1ed7a8649250031850fad0ffd0a650068899f2994ed064294aada2f706", func := "revetment/revetmentlaw18.CoreTidies", spec := "coreTidies", inPlace := ["slices.overlaps[revetment/plan.Event]"], unfollowed := true, recurses := true, plainKeys := false, apart := false, narrowed := true }
def CoreTidiesUptoSaid : Prop := coreTidiesUptoRow.holds Tryz.pinned (OpenSpec.upto coreTidiesSpec)

/-- 'revetmentlaw18.CoreIdeal', WHERE WHAT IT READS IS OF BULK AT MOST 1048576: true; the input reads as it did. -/
def coreIdealUptoRow : OpenClaim := { program := "ytadnemjjlacolaagreat", sum := "d9ad2d1ed7a8649250031850fad0ffd0a650068899f2994ed064294aada2f706", func := "revetment/revetmentlaw18.CoreIdeal", spec := "coreIdeal", inPlace := ["slices.overlaps[revetment/plan.Event]"], unfollowed := true, recurses := true, plainKeys := false, apart := false, narrowed := true }
def CoreIdealUptoSaid : Prop := coreIdealUptoRow.holds Tryz.pinned (OpenSpec.upto coreIdealSpec)

/-- 'revetmentlaw19.ScrubCalm', WHERE WHAT IT READS IS OF BULK AT MOST 1048576: true; the input reads as it did. -/
def scrubCalmUptoRow : OpenClaim := { program := "ytadnemjjlacolaagreat", sum := "d9ad2d1ed7a8649250031850fad0ffd0a650068899f2994ed064294aada2f706", func := "revetment/revetmentlaw19.ScrubCalm", spec := "scrubCalm", inPlace := ["slices.overlaps[revetment/plan.Event]"], unfollowed := true, recurses := true, plainKeys := false, apart := false, narrowed := true }
def ScrubCalmUptoSaid : Prop := scrubCalmUptoRow.holds Tryz.pinned (OpenSpec.upto scrubCalmSpec)

end Rows
end Go.Proofs.YtadnemjjlacolaaGreat
