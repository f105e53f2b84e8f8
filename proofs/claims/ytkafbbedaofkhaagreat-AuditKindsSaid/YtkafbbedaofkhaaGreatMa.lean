/- A call that is remembered; printed by MemoGen.lean. -/
import Derived.Test.YtkafbbedaofkhaaGreatFun
set_option linter.unusedVariables false
set_option linter.unusedSimpArgs false
set_option linter.unusedSectionVars false
namespace Go.Ev
open Go.Proofs
set_option maxRecDepth 100000
noncomputable section
/-- A call of 85. -/
def mPart : Memo := ⟨[(.ptr 157 0), (.slice 286 0 24 24 false)], 287, [(14, (.cells [(.slice 86 0 24 24 true), (mi 8), (mi 4), (mi 0), (.bool false)] 77)),
  (15, (.cells [.nilslice, (mi 8), (mi 0), (mi 0), (.bool false)] 277)),
  (18, (.cells [.nilslice, (mi 8), (mi 0), (mi 0), (.bool false)] 277)),
  (21, (.cells [.nilslice, (mi 8), (mi 0), (mi 0), (.bool false)] 277)),
  (24, (.cells [.nilslice, (mi 8), (mi 0), (mi 0), (.bool false)] 277)),
  (27, (.cells [.nilslice, (mi 8), (mi 0), (mi 0), (.bool false)] 277)),
  (30, (.cells [.nilslice, (mi 8), (mi 0), (mi 0), (.bool false)] 277)),
  (33, (.cells [.nilslice, (mi 8), (mi 0), (mi 0), (.bool false)] 277)),
  (36, (.cells [.nilslice, (mi 8), (mi 0), (mi 0), (.bool false)] 277)),
  (39, (.cells [.nilslice, (mi 8), (mi 0), (mi 0), (.bool false)] 277)),
  (42, (.cells [.nilslice, (mi 8), (mi 0), (mi 0), (.bool false)] 277)),
  (45, (.cells [.nilslice, (mi 8), (mi 0), (mi 0), (.bool false)] 277)),
  (48, (.cells [.nilslice, (mi 8), (mi 0), (mi 0), (.bool false)] 277)),
  (51, (.cells [.nilslice, (mi 8), (mi 0), (mi 0), (.bool false)] 277)),
  (54, (.cells [.nilslice, (mi 8), (mi 0), (mi 0), (.bool false)] 277)),
  (57, (.cells [.nilslice, (mi 8), (mi 0), (mi 0), (.bool false)] 277)),
  (60, (.cells [.nilslice, (mi 8), (mi 0), (mi 0), (.bool false)] 277)),
  (63, (.cells [.nilslice, (mi 8), (mi 0), (mi 0), (.bool false)] 277)),
  (66, (.cells [.nilslice, (mi 8), (mi 0), (mi 0), (.bool false)] 277)),
  (69, (.cells [.nilslice, (mi 8), (mi 0), (mi 0), (.bool false)] 277)),
  (72, (.cells [.nilslice, (mi 8), (mi 0), (mi 0), (.bool false)] 277)),
  (75, (.cells [.nilslice, (mi 8), (mi 0), (mi 0), (.bool false)] 277)),
  (78, (.cells [.nilslice, (mi 8), (mi 0), (mi 0), (.bool false)] 277)),
  (81, (.cells [.nilslice, (mi 8), (mi 0), (mi 0), (.bool false)] 277)),
  (84, (.cells [.nilslice, (mi 8), (mi 0), (mi 0), (.bool false)] 277)),
  (86, (.vec [(.ptr 15 0), (.ptr 18 0), (.ptr 21 0), (.ptr 24 0), (.ptr 27 0), (.ptr 30 0), (.ptr 33 0), (.ptr 36 0), (.ptr 39 0), (.ptr 42 0), (.ptr 45 0), (.ptr 48 0), (.ptr 51 0), (.ptr 54 0), (.ptr 57 0), (.ptr 60 0), (.ptr 63 0), (.ptr 66 0), (.ptr 69 0), (.ptr 72 0), (.ptr 75 0), (.ptr 78 0), (.ptr 81 0), (.ptr 84 0)] 205 1)),
  (87, (.map [])),
  (88, (.cells [(.ptr 14 0), .nilslice, .nilslice, (.map 87)] 74)),
  (141, (.cells [(mi 3), (mi 8), (mi 8), (mi 4), (mi 0), (mi 4), (.slice 153 0 3 3 true)] 140)),
  (142, (.chan 8 [])),
  (143, (.cells [(.chan 142)] 215)),
  (146, (.chan 8 [])),
  (147, (.cells [(.chan 146)] 215)),
  (150, (.chan 8 [])),
  (151, (.cells [(.chan 150)] 215)),
  (153, (.vec [(.ptr 143 0), (.ptr 147 0), (.ptr 151 0)] 141 1)),
  (156, (.cells (repR 24 (mi 0)) 3)),
  (157, (.cells (appR [(.ptr 88 0), (mi 3), (mi 8), (mi 8), (mi 4), (mi 0), (mi 4)] (appR crcCells [(.ptr 141 0), (.slice 156 0 24 24 false), (.int .i64 (.negSucc 0)), (.int .i64 (.negSucc 0)), (mi 0)])) 137)),
  (286, (.cells (repR 24 (mi 0)) 3))], (mi 0), 1367, 142, [(142, some (.chan 8 [(mi 0), (mi 1), (mi 2), (mi 3), (mi 4), (mi 5), (mi 6), (mi 7)])),
  (146, some (.chan 8 [(mi 8), (mi 9), (mi 10), (mi 11), (mi 12), (mi 13), (mi 14), (mi 15)])),
  (150, some (.chan 8 [(mi 16), (mi 17), (mi 18), (mi 19), (mi 20), (mi 21), (mi 22), (mi 23)]))]⟩


end
theorem mPart_ran : ranB (callC T3 disp3h many 60 false 85 mPart.args mPart.heap) mPart = true := by kernel_rfl
theorem mPart_ok : FtOk Tryz.prog 85 (memoF mPart F85) := memoF_ok (FtOk.of T3_ok F85_eq) (callC_ok T3_ok disp3h_ok many 60).1 mPart_ran
end Go.Ev
