/- A call that is remembered; printed by MemoGen.lean. -/
import Derived.Test.YtkafbbedaofkhaaGreatFun
set_option linter.unusedVariables false
set_option linter.unusedSimpArgs false
set_option linter.unusedSectionVars false
namespace Go.Ev
open Go.Proofs
set_option maxRecDepth 100000
noncomputable section
/-- A call of 46. -/
def mLook : Memo := ⟨[(.ptr 1389 0)], 4368, [(14, (.cells [(.slice 86 0 24 24 true), (mi 8), (mi 4), (mi 14), (.bool false)] 77)),
  (15, (.cells [(.slice 1987 0 3 3 true), (mi 8), (mi 3), (mi 2), (.bool true)] 277)),
  (18, (.cells [.nilslice, (mi 8), (mi 0), (mi 0), (.bool false)] 277)),
  (21, (.cells [.nilslice, (mi 8), (mi 0), (mi 0), (.bool false)] 277)),
  (24, (.cells [.nilslice, (mi 8), (mi 0), (mi 0), (.bool false)] 277)),
  (27, (.cells [.nilslice, (mi 8), (mi 0), (mi 0), (.bool false)] 277)),
  (30, (.cells [.nilslice, (mi 8), (mi 0), (mi 0), (.bool false)] 277)),
  (33, (.cells [.nilslice, (mi 8), (mi 0), (mi 0), (.bool false)] 277)),
  (36, (.cells [.nilslice, (mi 8), (mi 0), (mi 0), (.bool false)] 277)),
  (39, (.cells [(.slice 2569 0 3 3 true), (mi 8), (mi 3), (mi 2), (.bool true)] 277)),
  (42, (.cells [.nilslice, (mi 8), (mi 0), (mi 0), (.bool false)] 277)),
  (45, (.cells [.nilslice, (mi 8), (mi 0), (mi 0), (.bool false)] 277)),
  (48, (.cells [.nilslice, (mi 8), (mi 0), (mi 0), (.bool false)] 277)),
  (51, (.cells [.nilslice, (mi 8), (mi 0), (mi 0), (.bool false)] 277)),
  (54, (.cells [.nilslice, (mi 8), (mi 0), (mi 0), (.bool false)] 277)),
  (57, (.cells [.nilslice, (mi 8), (mi 0), (mi 0), (.bool false)] 277)),
  (60, (.cells [.nilslice, (mi 8), (mi 0), (mi 0), (.bool false)] 277)),
  (63, (.cells [(.slice 3151 0 3 3 true), (mi 8), (mi 3), (mi 2), (.bool true)] 277)),
  (66, (.cells [.nilslice, (mi 8), (mi 0), (mi 0), (.bool false)] 277)),
  (69, (.cells [.nilslice, (mi 8), (mi 0), (mi 0), (.bool false)] 277)),
  (72, (.cells [.nilslice, (mi 8), (mi 0), (mi 0), (.bool false)] 277)),
  (75, (.cells [.nilslice, (mi 8), (mi 0), (mi 0), (.bool false)] 277)),
  (78, (.cells [.nilslice, (mi 8), (mi 0), (mi 0), (.bool false)] 277)),
  (81, (.cells [.nilslice, (mi 8), (mi 0), (mi 0), (.bool false)] 277)),
  (84, (.cells [.nilslice, (mi 8), (mi 0), (mi 0), (.bool false)] 277)),
  (86, (.vec [(.ptr 15 0), (.ptr 18 0), (.ptr 21 0), (.ptr 24 0), (.ptr 27 0), (.ptr 30 0), (.ptr 33 0), (.ptr 36 0), (.ptr 39 0), (.ptr 42 0), (.ptr 45 0), (.ptr 48 0), (.ptr 51 0), (.ptr 54 0), (.ptr 57 0), (.ptr 60 0), (.ptr 63 0), (.ptr 66 0), (.ptr 69 0), (.ptr 72 0), (.ptr 75 0), (.ptr 78 0), (.ptr 81 0), (.ptr 84 0)] 205 1)),
  (87, (.map [])),
  (88, (.cells [(.ptr 14 0), .nilslice, .nilslice, (.map 87)] 74)),
  (141, (.cells [(mi 3), (mi 8), (mi 8), (mi 4), (mi 0), (mi 4), (.slice 153 0 3 3 true)] 140)),
  (142, (.chan 8 [(mi 1), (mi 2), (mi 3), (mi 4), (mi 5), (mi 6), (mi 7)])),
  (143, (.cells [(.chan 142)] 215)),
  (146, (.chan 8 [(mi 9), (mi 10), (mi 11), (mi 12), (mi 13), (mi 14), (mi 15)])),
  (147, (.cells [(.chan 146)] 215)),
  (150, (.chan 8 [(mi 17), (mi 18), (mi 19), (mi 20), (mi 21), (mi 22), (mi 23)])),
  (151, (.cells [(.chan 150)] 215)),
  (153, (.vec [(.ptr 143 0), (.ptr 147 0), (.ptr 151 0)] 141 1)),
  (156, (.cells (repR 24 (mi 0)) 3)),
  (157, (.cells (appR [(.ptr 88 0), (mi 3), (mi 8), (mi 8), (mi 4), (mi 0), (mi 4)] (appR crcCells [(.ptr 141 0), (.slice 156 0 24 24 false), (.int .i64 (.negSucc 0)), (.int .i64 (.negSucc 0)), (mi 0)])) 137)),
  (1367, (.cells [(.ptr 157 0), (mi 0), (.int .i64 (.negSucc 0)), (mi 8), (.int .i64 (.negSucc 0)), (mi 16), (.int .i64 (.negSucc 0))] 243)),
  (1383, (.cells (repR 24 (mi 0)) 135)),
  (1385, (.cells (repR 24 (mi 0)) 3)),
  (1386, (.cells [(mi 3), (mi 8), (mi 8), (mi 4), (mi 0), (mi 4), (.slice 1383 0 4 4 false), (.slice 1385 0 24 24 false)] 133)),
  (1389, (.cells [(.ptr 157 0), (.ptr 1367 0), (.ptr 1386 0), (mi 1), (mi 1), (mi 1), (.bool false)] 129)),
  (1987, (.vec (appR [(mb 4), (mb 1), (mb 0), (mb 0), (mb 0), (mb 0), (mb 1), (mb 0), (mb 0), (mb 0), (mb 1), (mb 0), (mb 0), (mb 0), (mb 0), (mb 0), (mb 1), (mb 0), (mb 0), (mb 0), (mb 0), (mb 0), (mb 3), (mb 8), (mb 8), (mb 4), (mb 0), (mb 0), (mb 4)] (appR (repR 31 (mb 0)) (appR [(mb 209), (mb 150), (mb 62), (mb 250), (mb 5), (mb 1), (mb 0), (mb 0), (mb 1), (mb 0), (mb 1), (mb 0), (mb 0), (mb 0), (mb 1), (mb 0), (mb 0), (mb 0), (mb 0), (mb 0), (mb 1)] (appR (repR 43 (mb 0)) (appR [(mb 100), (mb 114), (mb 249), (mb 221), (mb 5), (mb 1), (mb 0), (mb 0), (mb 2), (mb 0), (mb 1), (mb 0), (mb 0), (mb 0), (mb 1), (mb 0), (mb 0), (mb 0), (mb 0), (mb 0), (mb 2)] (appR (repR 43 (mb 0)) [(mb 220), (mb 14), (mb 57), (mb 218)])))))) 44 64)),
  (2569, (.vec (appR [(mb 4), (mb 1), (mb 8), (mb 0), (mb 0), (mb 0), (mb 1), (mb 0), (mb 0), (mb 0), (mb 1), (mb 0), (mb 0), (mb 0), (mb 0), (mb 0), (mb 1), (mb 0), (mb 0), (mb 0), (mb 0), (mb 0), (mb 3), (mb 8), (mb 8), (mb 4), (mb 0), (mb 0), (mb 4)] (appR (repR 31 (mb 0)) (appR [(mb 68), (mb 204), (mb 205), (mb 67), (mb 5), (mb 1), (mb 8), (mb 0), (mb 1), (mb 0), (mb 1), (mb 0), (mb 0), (mb 0), (mb 1), (mb 0), (mb 0), (mb 0), (mb 0), (mb 0), (mb 1)] (appR (repR 43 (mb 0)) (appR [(mb 241), (mb 40), (mb 10), (mb 100), (mb 5), (mb 1), (mb 8), (mb 0), (mb 2), (mb 0), (mb 1), (mb 0), (mb 0), (mb 0), (mb 1), (mb 0), (mb 0), (mb 0), (mb 0), (mb 0), (mb 2)] (appR (repR 43 (mb 0)) [(mb 73), (mb 84), (mb 202), (mb 99)])))))) 44 64)),
  (3151, (.vec (appR [(mb 4), (mb 1), (mb 16), (mb 0), (mb 0), (mb 0), (mb 1), (mb 0), (mb 0), (mb 0), (mb 1), (mb 0), (mb 0), (mb 0), (mb 0), (mb 0), (mb 1), (mb 0), (mb 0), (mb 0), (mb 0), (mb 0), (mb 3), (mb 8), (mb 8), (mb 4), (mb 0), (mb 0), (mb 4)] (appR (repR 31 (mb 0)) (appR [(mb 10), (mb 85), (mb 52), (mb 140), (mb 5), (mb 1), (mb 16), (mb 0), (mb 1), (mb 0), (mb 1), (mb 0), (mb 0), (mb 0), (mb 1), (mb 0), (mb 0), (mb 0), (mb 0), (mb 0), (mb 1)] (appR (repR 43 (mb 0)) (appR [(mb 191), (mb 177), (mb 243), (mb 171), (mb 5), (mb 1), (mb 16), (mb 0), (mb 2), (mb 0), (mb 1), (mb 0), (mb 0), (mb 0), (mb 1), (mb 0), (mb 0), (mb 0), (mb 0), (mb 0), (mb 2)] (appR (repR 43 (mb 0)) [(mb 7), (mb 205), (mb 51), (mb 172)])))))) 44 64))], (.tuple [.nilslice, (mi 0)]), 6151, 4368, []⟩


end
theorem mLook_ran : ranB (callC T3 disp3h many 60 false 46 mLook.args mLook.heap) mLook = true := by kernel_rfl
theorem mLook_ok : FtOk Tryz.prog 46 (memoF mLook F46) := memoF_ok (FtOk.of T3_ok F46_eq) (callC_ok T3_ok disp3h_ok many 60).1 mLook_ran
end Go.Ev
