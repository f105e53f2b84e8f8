/- Functions as combinators; printed by Gen.lean. -/
import Derived.Test.YtkafbbedaofkhaaGreatFa
set_option linter.unusedVariables false
set_option linter.unusedSimpArgs false
set_option linter.unusedSectionVars false
namespace Go.Ev
open Go.Proofs
set_option maxRecDepth 100000
noncomputable section
/-! 216 (*revetment/area.Areas).fill -/
def F216ret : CF := (ret1 g6)
def F216j0 (call round : Caller) (K : Nat) : CF :=
  mv g0 p72 (nilK g72 (put p73 (offK 0 g73 (put p74 (load1K g74 (put p75 (callK call 114 (fun tm => [g75 tm]) (put p76 (mv g2 p77 (callK call 191 (fun tm => [g76 tm, g77 tm]) (put p78 (mv g78 p6 (F216ret)))))))))))))
def F216j1 (call round : Caller) (K : Nat) : CF :=
  mv g0 p63 (nilK g63 (put p64 (offK 0 g64 (put p65 (load1K g65 (put p66 (callK call 114 (fun tm => [g66 tm]) (put p67 (callK call 7 (fun tm => [g67 tm]) (put p68 (mv g2 p69 (callK call 138 (fun tm => [g68 tm, g69 tm]) (put p70 (intK gEql (bin T3 .eql 3) g70 (constE (.int .i64 (.ofNat 2))) (put p71 (condC g71 (mv (constE (.int .i64 (.ofNat 0))) p6 (F216ret)) ((F216j0 call round K))))))))))))))))))
def F216j3 (call round : Caller) (K : Nat) (ih2 : CF) : CF :=
  intK gAdd (bin T3 .add 3) g36 (constE (.int .i64 (.ofNat 1))) (put p62 (mv g62 p36 (ih2)))
def F216j4 (call round : Caller) (K : Nat) (ih2 : CF) : CF :=
  mv g13 p59 (intK gNeq (bin T3 .neq 36) g59 (constE (.int .i64 (.ofNat 0))) (put p60 (condC g60 (mv g13 p61 (mv g61 p6 (F216ret))) ((F216j3 call round K ih2)))))
def F216j5 (call round : Caller) (K : Nat) (ih2 : CF) : CF :=
  pickK g54 g57 (constE (.bool false)) (put p58 (condC g58 (mv (constE (.int .i64 (.ofNat 30))) p13 ((F216j4 call round K ih2))) ((F216j4 call round K ih2))))
def F216j6 (call round : Caller) (K : Nat) (ih2 : CF) : CF :=
  guardK (wantG o54 true) (intK gNeq (bin T3 .neq 3) g55 g56 (put p57 ((F216j5 call round K ih2)))) (put p57 ((F216j5 call round K ih2)))
def F216j7 (call round : Caller) (K : Nat) (ih2 : CF) : CF :=
  guardK (wantG o54 true) (moveK g10 (put p56 ((F216j6 call round K ih2)))) (put p56 ((F216j6 call round K ih2)))
def F216j8 (call round : Caller) (K : Nat) (ih2 : CF) : CF :=
  mv g36 p38 (ixSliK 64 g34 g36 (put p39 (loadNK 64 g39 (put p40 (allocK (List.replicate 64 (.int .u8 (.ofNat 0))) 44 (put p11 (mv g38 p10 (storeK 64 g11 g40 (dropS (drawC (fun tm h => adraw T3 call round 79 (regOps T3 216 10) tm h) (mv g13 p52 (intK gEql (bin T3 .eql 36) g52 (constE (.int .i64 (.ofNat 0))) (put p53 (mv g53 p54 (guardK (wantG o54 true) (moveK g12 (put p55 ((F216j7 call round K ih2)))) (put p55 ((F216j7 call round K ih2))))))))))))))))))
def F216b9 (call round : Caller) (K : Nat) (ih2 : CF) : CF :=
  intK gLss (bin T3 .lss 3) g36 g35 (put p37 (condC g37 ((F216j8 call round K ih2)) ((F216j1 call round K))))
def F216j10 (call round : Caller) (K : Nat) : CF :=
  mv g7 p34 (lenK g34 (put p35 (mv (constE (.int .i64 (.ofNat 0))) p36 (loopC (F216b9 call round K) K))))
def F216j11 (call round : Caller) (K : Nat) : CF :=
  mv g0 p28 (mv g2 p29 (callK call 265 (fun tm => [g28 tm, g29 tm]) (put p30 (mv g30 p9 (mv g9 p31 (intK gNeq (bin T3 .neq 36) g31 (constE (.int .i64 (.ofNat 0))) (put p32 (condC g32 (mv g9 p33 (mv g33 p6 (F216ret))) ((F216j10 call round K))))))))))
def F216 (call round : Caller) (K : Nat) : FnT := funC 79 (boxK 188 g1 (put p4 (mv (constE (.int .i64 (.ofNat 0))) p6 (drawC (fun tm h => adraw T3 call round 79 (regOps T3 216 1) tm h) (mv g8 p25 (intK gNeq (bin T3 .neq 36) g25 (constE (.int .i64 (.ofNat 0))) (put p26 (condC g26 (mv g8 p27 (mv g27 p6 (F216ret))) ((F216j11 call round K))))))))))
theorem F216_eq (call round : Caller) (K : Nat) : funF T3 call round K 216 = F216 call round K := by kernel_rfl

/-! 217 (*revetment/mirror.Mirror).Open -/
def F217ret : CF := (retC T3 [.tmp 2, .tmp 3, .tmp 4])
def F217 (call round : Caller) (K : Nat) : FnT := funC 17 (mv (constE (.int .i64 (.ofNat 0))) p2 (mv (constE (.int .i64 (.ofNat 0))) p3 (mv (constE (.int .i64 (.ofNat 0))) p4 (drawC (fun tm h => adraw T3 call round 17 (regOps T3 217 1) tm h) (F217ret)))))
theorem F217_eq (call round : Caller) (K : Nat) : funF T3 call round K 217 = F217 call round K := by kernel_rfl

/-! 218 (*revetment/area.Areas).Has -/
def F218ret : CF := (retC T3 [.cell 4 4])
def F218j0 (call round : Caller) (K : Nat) : CF :=
  storeK 1 g4 (constE (.bool false)) (dropS (F218ret))
def F218 (call round : Caller) (K : Nat) : FnT := funC 12 (boxK 3 g1 (put p3 (allocK [(.bool false)] 4 (put p4 (mv g0 p6 (callK call 267 (fun tm => [g6 tm]) (put p7 (rangeS T3 call 218 12 none 0 (fun _ => badC) [(0, (F218j0 call round K))] F218ret ((F218j0 call round K))))))))))
theorem F218_eq (call round : Caller) (K : Nat) : funF T3 call round K 218 = F218 call round K := by kernel_rfl

/-! 219 (*revetment/pool.Pool).Has -/
def F219ret : CF := (retC T3 [.cell 4 4])
def F219j0 (call round : Caller) (K : Nat) : CF :=
  storeK 1 g4 (constE (.bool false)) (dropS (F219ret))
def F219 (call round : Caller) (K : Nat) : FnT := funC 14 (boxK 3 g1 (put p3 (allocK [(.bool false)] 4 (put p4 (mv g0 p7 (callK call 268 (fun tm => [g7 tm]) (put p8 (rangeS T3 call 219 14 none 0 (fun _ => badC) [(0, (F219j0 call round K))] F219ret ((F219j0 call round K))))))))))
theorem F219_eq (call round : Caller) (K : Nat) : funF T3 call round K 219 = F219 call round K := by kernel_rfl

/-! 220 (*revetment/plan.Drive).begin -/
def F220ret : CF := ret0
def F220j0 (call round : Caller) (K : Nat) : CF :=
  pickK g6 g13 (constE (.bool false)) (put p14 (condC g14 (mv g0 p15 (callK call 164 (fun tm => [g15 tm]) (put p16 (F220ret)))) (F220ret)))
def F220j1 (call round : Caller) (K : Nat) : CF :=
  guardK (wantG o6 true) (intK gLss (bin T3 .lss 3) g7 g12 (put p13 ((F220j0 call round K)))) (put p13 ((F220j0 call round K)))
def F220j2 (call round : Caller) (K : Nat) : CF :=
  guardK (wantG o6 true) (callK call 111 (fun tm => [g11 tm]) (put p12 ((F220j1 call round K)))) (put p12 ((F220j1 call round K)))
def F220j3 (call round : Caller) (K : Nat) : CF :=
  guardK (wantG o6 true) (load1K g10 (put p11 ((F220j2 call round K)))) (put p11 ((F220j2 call round K)))
def F220j4 (call round : Caller) (K : Nat) : CF :=
  guardK (wantG o6 true) (offK 0 g9 (put p10 ((F220j3 call round K)))) (put p10 ((F220j3 call round K)))
def F220j5 (call round : Caller) (K : Nat) : CF :=
  guardK (wantG o6 true) (nilK g8 (put p9 ((F220j4 call round K)))) (put p9 ((F220j4 call round K)))
def F220j6 (call round : Caller) (K : Nat) : CF :=
  guardK (wantG o6 true) (moveK g0 (put p8 ((F220j5 call round K)))) (put p8 ((F220j5 call round K)))
def F220 (call round : Caller) (K : Nat) : FnT := funC 17 (mv g1 p4 (intK gGeq (bin T3 .geq 3) g4 (constE (.int .i64 (.ofNat 0))) (put p5 (mv g5 p6 (guardK (wantG o6 true) (moveK g1 (put p7 ((F220j6 call round K)))) (put p7 ((F220j6 call round K))))))))
theorem F220_eq (call round : Caller) (K : Nat) : funF T3 call round K 220 = F220 call round K := by kernel_rfl

/-! 223 (*revetment/queue.Queue[int]).Put -/
def F223ret : CF := (ret1 g4)
def F223 (call round : Caller) (K : Nat) : FnT := funC 13 (mv (constE (.int .i64 (.ofNat 0))) p4 (mv g0 p5 (nilK g5 (put p6 (offK 0 g6 (put p7 (load1K g7 (put p8 (mv g1 p9 (slowK (sendM g8 g9) (put p10 (extrK 0 g10 (put p11 (intK gEql (bin T3 .eql 3) g11 (constE (.int .i64 (.ofNat 0))) (put p12 (condC g12 (mv (constE (.int .i64 (.ofNat 0))) p4 (F223ret)) (mv (constE (.int .i64 (.ofNat 17))) p4 (F223ret))))))))))))))))))
theorem F223_eq (call round : Caller) (K : Nat) : funF T3 call round K 223 = F223 call round K := by kernel_rfl

/-! 229 (revetment/script.Step).bare -/
def F229ret : CF := (retC T3 [.cell 2 103])
def F229j0 (call round : Caller) (K : Nat) : CF :=
  loadNK 73 g3 (put p37 (storeK 73 g2 g37 (dropS (F229ret))))
def F229j1 (call round : Caller) (K : Nat) : CF :=
  condC g9 (drawC (fun tm h => adraw T3 call round 38 (regOps T3 229 5) tm h) ((F229j0 call round K))) (intK gEql (bin T3 .eql 3) g8 (constE (.int .i64 (.ofNat 5))) (put p19 (mv g19 p18 (condC g18 (drawC (fun tm h => adraw T3 call round 38 (regOps T3 229 7) tm h) ((F229j0 call round K))) (intK gEql (bin T3 .eql 3) g8 (constE (.int .i64 (.ofNat 11))) (put p27 (mv g27 p26 (condC g26 (offK 4 g1 (put p28 (loadNK 68 g28 (put p29 (callK call 277 (fun tm => [g29 tm]) (put p30 (offK 4 g3 (put p31 (storeK 68 g31 g30 (dropS ((F229j0 call round K)))))))))))) (intK gEql (bin T3 .eql 3) g8 (constE (.int .i64 (.ofNat 12))) (put p33 (mv g33 p32 (condC g32 (offK 72 g1 (put p34 (load1K g34 (put p35 (offK 72 g3 (put p36 (storeK 1 g36 g35 (dropS ((F229j0 call round K)))))))))) ((F229j0 call round K))))))))))))))
def F229 (call round : Caller) (K : Nat) : FnT := funC 38 (boxK 103 g0 (put p1 (allocK (List.replicate 3 (.int .i64 (.ofNat 0)) ++ [(.str ⟨#[]⟩)] ++ List.replicate 4 (.int .i64 (.ofNat 0)) ++ List.replicate 64 (.int .u8 (.ofNat 0)) ++ [(.str ⟨#[]⟩)]) 103 (put p2 (offK 0 g1 (put p4 (load1K g4 (put p5 (valK (buildV (nthPR [(0, 1), (1, 1), (2, 1), (3, 1), (4, 68), (72, 1)]) (List.replicate 3 (.int .i64 (.ofNat 0)) ++ [(.str ⟨#[]⟩)] ++ List.replicate 4 (.int .i64 (.ofNat 0)) ++ List.replicate 64 (.int .u8 (.ofNat 0)) ++ [(.str ⟨#[]⟩)]) (fun tm => [(0, g5 tm)])) (put p6 (allocK (List.replicate 3 (.int .i64 (.ofNat 0)) ++ [(.str ⟨#[]⟩)] ++ List.replicate 4 (.int .i64 (.ofNat 0)) ++ List.replicate 64 (.int .u8 (.ofNat 0)) ++ [(.str ⟨#[]⟩)]) 103 (put p3 (storeK 73 g3 g6 (dropS (offK 0 g1 (put p7 (load1K g7 (put p8 (intK gEql (bin T3 .eql 3) g8 (constE (.int .i64 (.ofNat 4))) (put p10 (mv g10 p9 (condC g9 ((F229j1 call round K)) (intK gEql (bin T3 .eql 3) g8 (constE (.int .i64 (.ofNat 6))) (put p11 (mv g11 p9 ((F229j1 call round K)))))))))))))))))))))))))))
theorem F229_eq (call round : Caller) (K : Nat) : funF T3 call round K 229 = F229 call round K := by kernel_rfl

/-! 230 revetment/script.fits -/
def F230ret : CF := (ret1 g2)
def F230j0 (call round : Caller) (K : Nat) : CF :=
  pickK g5 g7 (constE (.bool false)) (put p8 (mv g8 p2 (F230ret)))
def F230j1 (call round : Caller) (K : Nat) : CF :=
  guardK (wantG o5 true) (intK gLeq (bin T3 .leq 3) g6 (constE (.int .i64 (.ofNat 65535))) (put p7 ((F230j0 call round K)))) (put p7 ((F230j0 call round K)))
def F230 (call round : Caller) (K : Nat) : FnT := funC 9 (mv (constE (.bool false)) p2 (mv g0 p3 (intK gGeq (bin T3 .geq 3) g3 (constE (.int .i64 (.ofNat 0))) (put p4 (mv g4 p5 (guardK (wantG o5 true) (moveK g0 (put p6 ((F230j1 call round K)))) (put p6 ((F230j1 call round K)))))))))
theorem F230_eq (call round : Caller) (K : Nat) : funF T3 call round K 230 = F230 call round K := by kernel_rfl

/-! 231 (*revetment/machine.Machine).format -/
def F231ret : CF := (retC T3 [.cell 2 217])
def F231j0 (call round : Caller) (K : Nat) : CF :=
  mv g3 p47 (valK (buildV (nthPR [(0, 1), (1, 1), (2, 1)]) [(.int .i64 (.ofNat 0)), (.str ⟨#[]⟩), (.bool false)] (fun tm => [(0, g47 tm)])) (put p48 (storeK 3 g2 g48 (dropS (F231ret)))))
def F231j1 (call round : Caller) (K : Nat) : CF :=
  condC g44 ((F231j0 call round K)) (mv g0 p10 (nilK g10 (put p11 (offK 8 g11 (put p12 (storeK 1 g12 (constE (.bool false)) (dropS ((F231j0 call round K)))))))))
def F231 (call round : Caller) (K : Nat) : FnT := funC 49 (allocK [(.int .i64 (.ofNat 0)), (.str ⟨#[]⟩), (.bool false)] 217 (put p2 (mv g0 p4 (nilK g4 (put p5 (offK 7 g5 (put p6 (load1K g6 (put p7 (callK call 15 (fun tm => [g7 tm]) (put p8 (mv g8 p3 (mv g3 p9 (intK gEql (bin T3 .eql 36) g9 (constE (.int .i64 (.ofNat 0))) (put p14 (mv g14 p13 (condC g13 (mv g0 p15 (nilK g15 (put p16 (offK 8 g16 (put p17 (storeK 1 g17 (constE (.bool true)) (dropS (drawC (fun tm h => adraw T3 call round 49 (regOps T3 231 6) tm h) (mv g0 p36 (mv g0 p37 (nilK g37 (put p38 (offK 9 g38 (put p39 (load1K g39 (put p40 (callK call 278 (fun tm => [g36 tm, g40 tm]) (put p41 (mv g0 p42 (callK call 279 (fun tm => [g42 tm]) (put p43 ((F231j0 call round K))))))))))))))))))))))) (intK gEql (bin T3 .eql 36) g9 (constE (.int .i64 (.ofNat 43))) (put p45 (mv g45 p44 (condC g44 ((F231j1 call round K)) (intK gEql (bin T3 .eql 36) g9 (constE (.int .i64 (.ofNat 20))) (put p46 (mv g46 p44 ((F231j1 call round K))))))))))))))))))))))))))
theorem F231_eq (call round : Caller) (K : Nat) : funF T3 call round K 231 = F231 call round K := by kernel_rfl

/-! 241 (*revetment/plan.Drive).Happened -/
def F241ret : CF := (ret1 g2)
def F241 (call round : Caller) (K : Nat) : FnT := funC 8 (mv (constE .nilfunc) p2 (mv g0 p3 (nilK g3 (put p4 (offK 2 g4 (put p5 (load1K g5 (put p6 (callK call 286 (fun tm => [g6 tm]) (put p7 (mv g7 p2 (F241ret))))))))))))
theorem F241_eq (call round : Caller) (K : Nat) : funF T3 call round K 241 = F241 call round K := by kernel_rfl

/-! 242 slices.All[[]revetment/bmap.Entry,revetment/bmap.Entry]$1 -/
def F242ret : CF := ret0
def F242j1 (call round : Caller) (K : Nat) (ih0 : CF) : CF :=
  intK gAdd (bin T3 .add 3) g7 (constE (.int .i64 (.ofNat 1))) (put p17 (mv g17 p7 (ih0)))
def F242j2 (call round : Caller) (K : Nat) (ih0 : CF) : CF :=
  mv g7 p9 (ixSliK 6 g5 g7 (put p10 (loadNK 6 g10 (put p11 (allocK [(.int .i64 (.ofNat 0)), (.int .i64 (.ofNat 0)), (.int .i64 (.ofNat 0)), (.int .i64 (.ofNat 0)), (.int .i64 (.ofNat 0)), (.int .i64 (.ofNat 0))] 135 (put p4 (mv g9 p3 (storeK 6 g4 g11 (dropS (mv g0 p12 (mv g3 p13 (loadNK 6 g4 (put p14 (callVK call round g12 (fun tm => [g13 tm, g14 tm]) (put p15 (notK g15 (put p16 (condC g16 (F242ret) ((F242j1 call round K ih0))))))))))))))))))))
def F242b3 (call round : Caller) (K : Nat) (ih0 : CF) : CF :=
  intK gLss (bin T3 .lss 3) g7 g6 (put p8 (condC g8 ((F242j2 call round K ih0)) (F242ret)))
def F242 (call round : Caller) (K : Nat) : FnT := funC 18 (load1K g1 (put p5 (lenK g5 (put p6 (mv (constE (.int .i64 (.ofNat 0))) p7 (loopC (F242b3 call round K) K))))))
theorem F242_eq (call round : Caller) (K : Nat) : funF T3 call round K 242 = F242 call round K := by kernel_rfl

/-! 243 slices.All[[]revetment/frame.Sector,revetment/frame.Sector] -/
def F243ret : CF := (ret1 g2)
def F243 (call round : Caller) (K : Nat) : FnT := funC 4 (boxK 225 g0 (put p1 (mv (constE .nilfunc) p2 (valK (makeFuncV 287 (fun tm => []) (fun tm => [g1 tm])) (put p3 (mv g3 p2 (F243ret)))))))
theorem F243_eq (call round : Caller) (K : Nat) : funF T3 call round K 243 = F243 call round K := by kernel_rfl

/-! 244 revetment/frame.Decode -/
def F244ret : CF := (retC T3 [.cell 4 235, .tmp 5])
def F244j0 (call round : Caller) (K : Nat) : CF :=
  loadNK 49 g9 (put p58 (storeK 49 g4 g58 (dropS (mv (constE (.int .i64 (.ofNat 0))) p5 (F244ret)))))
def F244j1 (call round : Caller) (K : Nat) : CF :=
  pickK g52 (constE (.bool true)) g55 (put p56 (condC g56 (valK (buildV (nthPR [(0, 1), (1, 1), (2, 1), (3, 1), (4, 1), (5, 44)]) (List.replicate 5 (.int .i64 (.ofNat 0)) ++ List.replicate 44 (.int .u8 (.ofNat 0))) (fun tm => [])) (put p57 (storeK 49 g4 g57 (dropS (mv (constE (.int .i64 (.ofNat 10))) p5 (F244ret)))))) ((F244j0 call round K))))
def F244j2 (call round : Caller) (K : Nat) : CF :=
  guardK (wantG o52 false) (intK gNeq (bin T3 .neq 36) g54 (constE (.int .i64 (.ofNat 0))) (put p55 ((F244j1 call round K)))) (put p55 ((F244j1 call round K)))
def F244j3 (call round : Caller) (K : Nat) : CF :=
  guardK (wantG o52 false) (callK call 292 (fun tm => [g53 tm]) (put p54 ((F244j2 call round K)))) (put p54 ((F244j2 call round K)))
def F244j4 (call round : Caller) (K : Nat) : CF :=
  pickK g47 (constE (.bool true)) g50 (put p51 (mv g51 p52 (guardK (wantG o52 false) (moveK g8 (put p53 ((F244j3 call round K)))) (put p53 ((F244j3 call round K))))))
def F244j5 (call round : Caller) (K : Nat) : CF :=
  guardK (wantG o47 false) (notK g49 (put p50 ((F244j4 call round K)))) (put p50 ((F244j4 call round K)))
def F244j6 (call round : Caller) (K : Nat) : CF :=
  guardK (wantG o47 false) (callK call 251 (fun tm => [g48 tm]) (put p49 ((F244j5 call round K)))) (put p49 ((F244j5 call round K)))
def F244j7 (call round : Caller) (K : Nat) : CF :=
  mv g6 p21 (callK call 289 (fun tm => [g21 tm]) (put p22 (mv g22 p8 (mv g8 p23 (callK call 290 (fun tm => [g23 tm, (constE (.int .i64 (.ofNat 1))) tm]) (put p24 (valK (buildV (nthPR [(0, 1), (1, 1), (2, 1), (3, 1), (4, 1), (5, 44)]) (List.replicate 5 (.int .i64 (.ofNat 0)) ++ List.replicate 44 (.int .u8 (.ofNat 0))) (fun tm => [(0, g24 tm)])) (put p25 (allocK (List.replicate 5 (.int .i64 (.ofNat 0)) ++ List.replicate 44 (.int .u8 (.ofNat 0))) 235 (put p9 (storeK 49 g9 g25 (dropS (mv g8 p26 (callK call 290 (fun tm => [g26 tm, (constE (.int .i64 (.ofNat 1))) tm]) (put p27 (mv g27 p10 (mv g8 p28 (callK call 290 (fun tm => [g28 tm, (constE (.int .i64 (.ofNat 2))) tm]) (put p29 (mv g8 p30 (callK call 290 (fun tm => [g30 tm, (constE (.int .i64 (.ofNat 2))) tm]) (put p31 (mv g8 p32 (callK call 290 (fun tm => [g32 tm, (constE (.int .i64 (.ofNat 4))) tm]) (put p33 (mv g8 p34 (callK call 290 (fun tm => [g34 tm, (constE (.int .i64 (.ofNat 6))) tm]) (put p35 (offK 1 g9 (put p36 (storeK 1 g36 g29 (dropS (offK 2 g9 (put p37 (storeK 1 g37 g31 (dropS (offK 3 g9 (put p38 (storeK 1 g38 g33 (dropS (offK 4 g9 (put p39 (storeK 1 g39 g35 (dropS (drawC (fun tm h => adraw T3 call round 59 (regOps T3 244 8) tm h) (mv g10 p45 (intK gNeq (bin T3 .neq 3) g45 (constE (.int .i64 (.ofNat 1))) (put p46 (mv g46 p47 (guardK (wantG o47 false) (loadNK 49 g9 (put p48 ((F244j6 call round K)))) (put p48 ((F244j6 call round K)))))))))))))))))))))))))))))))))))))))))))))))))))))
def F244 (call round : Caller) (K : Nat) : FnT := funC 59 (boxK 125 g0 (put p2 (boxK 44 g1 (put p3 (allocK (List.replicate 5 (.int .i64 (.ofNat 0)) ++ List.replicate 44 (.int .u8 (.ofNat 0))) 235 (put p4 (mv (constE (.int .i64 (.ofNat 0))) p5 (drawC (fun tm h => adraw T3 call round 59 (regOps T3 244 1) tm h) (mv g7 p17 (intK gNeq (bin T3 .neq 36) g17 (constE (.int .i64 (.ofNat 0))) (put p18 (condC g18 (valK (buildV (nthPR [(0, 1), (1, 1), (2, 1), (3, 1), (4, 1), (5, 44)]) (List.replicate 5 (.int .i64 (.ofNat 0)) ++ List.replicate 44 (.int .u8 (.ofNat 0))) (fun tm => [])) (put p19 (mv g7 p20 (storeK 49 g4 g19 (dropS (mv g20 p5 (F244ret))))))) ((F244j7 call round K))))))))))))))
theorem F244_eq (call round : Caller) (K : Nat) : funF T3 call round K 244 = F244 call round K := by kernel_rfl

/-! 245 revetment/snap.begin -/
def F245ret : CF := (retC T3 [.cell 2 188, .tmp 3])
def F245 (call round : Caller) (K : Nat) : FnT := funC 44 (boxK 235 g0 (put p1 (allocK [(.int .i64 (.ofNat 0)), (.int .i64 (.ofNat 0)), (.int .i64 (.ofNat 0)), .nilptr] 188 (put p2 (mv (constE (.int .i64 (.ofNat 0))) p3 (offK 5 g1 (put p9 (valK (sliArrV 44 1 g9 (fun _ => none) (fun _ => none) (fun _ => none)) (put p10 (callK call 289 (fun tm => [g10 tm]) (put p11 (mv g11 p4 (drawC (fun tm h => adraw T3 call round 44 (regOps T3 245 2) tm h) (mv g4 p19 (callK call 290 (fun tm => [g19 tm, (constE (.int .i64 (.ofNat 1))) tm]) (put p20 (mv g4 p21 (callK call 290 (fun tm => [g21 tm, (constE (.int .i64 (.ofNat 1))) tm]) (put p22 (mv g4 p23 (callK call 290 (fun tm => [g23 tm, (constE (.int .i64 (.ofNat 1))) tm]) (put p24 (valK (buildV (nthPR [(0, 1), (1, 1), (2, 1), (3, 1), (4, 1), (5, 1)]) [(.int .i64 (.ofNat 0)), (.int .i64 (.ofNat 0)), (.int .i64 (.ofNat 0)), (.int .i64 (.ofNat 0)), (.int .i64 (.ofNat 0)), (.int .i64 (.ofNat 0))] (fun tm => [(0, g20 tm), (1, g22 tm), (2, g24 tm)])) (put p25 (allocK [(.int .i64 (.ofNat 0)), (.int .i64 (.ofNat 0)), (.int .i64 (.ofNat 0)), (.int .i64 (.ofNat 0)), (.int .i64 (.ofNat 0)), (.int .i64 (.ofNat 0))] 23 (put p6 (storeK 6 g6 g25 (dropS (mv g4 p26 (callK call 290 (fun tm => [g26 tm, (constE (.int .i64 (.ofNat 2))) tm]) (put p27 (mv g4 p28 (callK call 290 (fun tm => [g28 tm, (constE (.int .i64 (.ofNat 1))) tm]) (put p29 (mv g4 p30 (callK call 290 (fun tm => [g30 tm, (constE (.int .i64 (.ofNat 1))) tm]) (put p31 (offK 3 g6 (put p32 (storeK 1 g32 g27 (dropS (offK 4 g6 (put p33 (storeK 1 g33 g29 (dropS (offK 5 g6 (put p34 (storeK 1 g34 g31 (dropS (loadNK 6 g6 (put p36 (callK call 89 (fun tm => [g36 tm]) (put p37 (mv g37 p35 (extrK 0 g35 (put p38 (extrK 1 g35 (put p39 (mv g38 p7 (mv g39 p8 (mv g7 p40 (offK 3 g5 (put p41 (storeK 1 g41 g40 (dropS (loadNK 4 g5 (put p42 (mv g8 p43 (storeK 4 g2 g42 (dropS (mv g43 p3 (F245ret))))))))))))))))))))))))))))))))))))))))))))))))))))))))))))))))))))))))
theorem F245_eq (call round : Caller) (K : Nat) : funF T3 call round K 245 = F245 call round K := by kernel_rfl

/-! 246 revetment/snap.fill -/
def F246ret : CF := (ret1 g4)
def F246j0 (call round : Caller) (K : Nat) : CF :=
  mv (constE (.int .i64 (.ofNat 0))) p4 (F246ret)
def F246j2 (call round : Caller) (K : Nat) (ih1 : CF) : CF :=
  intK gAdd (bin T3 .add 3) g13 (constE (.int .i64 (.ofNat 1))) (put p38 (mv g38 p13 (ih1)))
def F246j3 (call round : Caller) (K : Nat) (ih1 : CF) : CF :=
  offK 3 g2 (put p30 (load1K g30 (put p31 (mv g8 p32 (loadNK 6 g7 (put p33 (callK call 95 (fun tm => [g31 tm, g32 tm, g33 tm]) (put p34 (mv g34 p9 (mv g9 p35 (intK gNeq (bin T3 .neq 36) g35 (constE (.int .i64 (.ofNat 0))) (put p36 (condC g36 (mv g9 p37 (mv g37 p4 (F246ret))) ((F246j2 call round K ih1)))))))))))))))
def F246j4 (call round : Caller) (K : Nat) (ih1 : CF) : CF :=
  mv g13 p15 (mv g15 p6 (drawC (fun tm h => adraw T3 call round 39 (regOps T3 246 5) tm h) (mv g8 p24 (offK 3 g2 (put p25 (load1K g25 (put p26 (callK call 122 (fun tm => [g26 tm]) (put p27 (fieldK 3 false 0 g27 (put p28 (intK gGeq (bin T3 .geq 3) g24 g28 (put p29 (condC g29 ((F246j0 call round K)) ((F246j3 call round K ih1))))))))))))))))
def F246b5 (call round : Caller) (K : Nat) (ih1 : CF) : CF :=
  intK gLss (bin T3 .lss 3) g13 (constE (.int .i64 (.ofNat 2))) (put p14 (condC g14 ((F246j4 call round K ih1)) ((F246j0 call round K))))
def F246 (call round : Caller) (K : Nat) : FnT := funC 39 (boxK 188 g0 (put p2 (boxK 235 g1 (put p3 (mv (constE (.int .i64 (.ofNat 0))) p4 (offK 5 g3 (put p10 (valK (sliArrV 44 1 g10 (fun tm => some ((constE (.int .i64 (.ofNat 1))) tm)) (fun _ => none) (fun _ => none)) (put p11 (callK call 289 (fun tm => [g11 tm]) (put p12 (mv g12 p5 (mv (constE (.int .i64 (.ofNat 0))) p13 (loopC (F246b5 call round K) K))))))))))))))
theorem F246_eq (call round : Caller) (K : Nat) : funF T3 call round K 246 = F246 call round K := by kernel_rfl

/-! 247 revetment/snap.Frames -/
def F247ret : CF := (ret2 g4 g5)
def F247j0 (call round : Caller) (K : Nat) : CF :=
  mv g7 p49 (mv g49 p4 (mv (constE (.int .i64 (.ofNat 0))) p5 (F247ret)))
def F247j2 (call round : Caller) (K : Nat) (ih1 : CF) : CF :=
  mv g8 p36 (intK gAdd (bin T3 .add 3) g36 (constE (.int .i64 (.ofNat 1))) (put p37 (mv g37 p8 (ih1))))
def F247j3 (call round : Caller) (K : Nat) (ih1 : CF) : CF :=
  mv g8 p38 (loadNK 4 g2 (put p39 (mv g8 p40 (callK call 295 (fun tm => [g39 tm, g40 tm]) (put p41 (offK 0 g6 (put p42 (storeK 1 g42 (constE (.int .i64 (.ofNat 5))) (dropS (offK 2 g6 (put p43 (storeK 1 g43 g38 (dropS (offK 5 g6 (put p44 (storeK 44 g44 g41 (dropS (mv g7 p45 (loadNK 49 g6 (put p46 (slowK (buildSliceM (List.replicate 5 (.int .i64 (.ofNat 0)) ++ List.replicate 44 (.int .u8 (.ofNat 0))) 235 49 1 (fun tm => [(0, g46 tm)])) (put p47 (slowK (appendM 235 49 g45 g47) (put p48 (mv g48 p7 ((F247j2 call round K ih1)))))))))))))))))))))))))))
def F247b4 (call round : Caller) (K : Nat) (ih1 : CF) : CF :=
  mv g8 p30 (offK 3 g2 (put p31 (load1K g31 (put p32 (callK call 122 (fun tm => [g32 tm]) (put p33 (callK call 129 (fun tm => [g33 tm]) (put p34 (intK gLss (bin T3 .lss 3) g30 g34 (put p35 (condC g35 ((F247j3 call round K ih1)) ((F247j0 call round K)))))))))))))
def F247j5 (call round : Caller) (K : Nat) : CF :=
  drawC (fun tm h => adraw T3 call round 50 (regOps T3 247 3) tm h) (loadNK 49 g6 (put p28 (slowK (buildSliceM (List.replicate 5 (.int .i64 (.ofNat 0)) ++ List.replicate 44 (.int .u8 (.ofNat 0))) 235 49 1 (fun tm => [(0, g28 tm)])) (put p29 (mv g29 p7 (mv (constE (.int .i64 (.ofNat 1))) p8 (loopC (F247b4 call round K) K)))))))
def F247j6 (call round : Caller) (K : Nat) : CF :=
  pickK g12 (constE (.bool true)) g18 (put p19 (condC g19 (mv (constE .nilslice) p4 (mv (constE (.int .i64 (.ofNat 10))) p5 (F247ret))) ((F247j5 call round K))))
def F247j7 (call round : Caller) (K : Nat) : CF :=
  guardK (wantG o12 false) (notK g17 (put p18 ((F247j6 call round K)))) (put p18 ((F247j6 call round K)))
def F247j8 (call round : Caller) (K : Nat) : CF :=
  guardK (wantG o12 false) (callK call 196 (fun tm => [g15 tm, g16 tm, (constE (.int .i64 (.ofNat 0))) tm]) (put p17 ((F247j7 call round K)))) (put p17 ((F247j7 call round K)))
def F247j9 (call round : Caller) (K : Nat) : CF :=
  guardK (wantG o12 false) (moveK g1 (put p16 ((F247j8 call round K)))) (put p16 ((F247j8 call round K)))
def F247j10 (call round : Caller) (K : Nat) : CF :=
  guardK (wantG o12 false) (callK call 122 (fun tm => [g14 tm]) (put p15 ((F247j9 call round K)))) (put p15 ((F247j9 call round K)))
def F247j11 (call round : Caller) (K : Nat) : CF :=
  guardK (wantG o12 false) (load1K g13 (put p14 ((F247j10 call round K)))) (put p14 ((F247j10 call round K)))
def F247 (call round : Caller) (K : Nat) : FnT := funC 50 (boxK 188 g0 (put p2 (mv (constE .nilslice) p4 (mv (constE (.int .i64 (.ofNat 0))) p5 (loadNK 4 g2 (put p9 (callK call 150 (fun tm => [g9 tm]) (put p10 (notK g10 (put p11 (mv g11 p12 (guardK (wantG o12 false) (offK 3 g2 (put p13 ((F247j11 call round K)))) (put p13 ((F247j11 call round K)))))))))))))))
theorem F247_eq (call round : Caller) (K : Nat) : funF T3 call round K 247 = F247 call round K := by kernel_rfl

/-! 248 revetment/scan.ahead -/
def F248ret : CF := (ret1 g4)
def F248j1 (call round : Caller) (K : Nat) (ih0 : CF) : CF :=
  intK gAdd (bin T3 .add 3) g9 (constE (.int .i64 (.ofNat 1))) (put p19 (mv g19 p9 (ih0)))
def F248j2 (call round : Caller) (K : Nat) (ih0 : CF) : CF :=
  mv g9 p11 (ixSliK 1 g7 g9 (put p12 (load1K g12 (put p13 (mv g11 p5 (mv g13 p6 (mv g6 p14 (notK g14 (put p15 (condC g15 (mv g0 p16 (mv g5 p17 (valK (sliV 64 g16 (fun _ => none) (fun tm => some (g17 tm)) (fun _ => none)) (put p18 (mv g18 p4 (F248ret)))))) ((F248j1 call round K ih0))))))))))))
def F248b3 (call round : Caller) (K : Nat) (ih0 : CF) : CF :=
  intK gLss (bin T3 .lss 3) g9 g8 (put p10 (condC g10 ((F248j2 call round K ih0)) (mv g0 p20 (mv g20 p4 (F248ret)))))
def F248 (call round : Caller) (K : Nat) : FnT := funC 21 (mv (constE .nilslice) p4 (mv g1 p7 (lenK g7 (put p8 (mv (constE (.int .i64 (.ofNat 0))) p9 (loopC (F248b3 call round K) K))))))
theorem F248_eq (call round : Caller) (K : Nat) : funF T3 call round K 248 = F248 call round K := by kernel_rfl

/-! 249 (*revetment/zdev.Device).Finish -/
def F249ret : CF := (ret1 g4)
def F249j0 (call round : Caller) (K : Nat) : CF :=
  mv g0 p12 (nilK g12 (put p13 (offK 0 g13 (put p14 (load1K g14 (put p15 (mv g1 p16 (ixSliK 1 g15 g16 (put p17 (load1K g17 (put p18 (callK call 296 (fun tm => [g18 tm]) (put p19 (mv g19 p4 (F249ret)))))))))))))))
def F249 (call round : Caller) (K : Nat) : FnT := funC 20 (mv (constE (.int .i64 (.ofNat 0))) p4 (mv g0 p6 (mv g1 p7 (callK call 269 (fun tm => [g6 tm, g7 tm]) (put p8 (mv g8 p5 (mv g5 p9 (intK gNeq (bin T3 .neq 36) g9 (constE (.int .i64 (.ofNat 0))) (put p10 (condC g10 (mv g5 p11 (mv g11 p4 (F249ret))) ((F249j0 call round K))))))))))))
theorem F249_eq (call round : Caller) (K : Nat) : funF T3 call round K 249 = F249 call round K := by kernel_rfl

/-! 251 (revetment/frame.Frame).Right -/
def F251ret : CF := (ret1 g2)
def F251j0 (call round : Caller) (K : Nat) : CF :=
  pickK g21 g24 (constE (.bool false)) (put p25 (mv g25 p2 (F251ret)))
def F251j1 (call round : Caller) (K : Nat) : CF :=
  guardK (wantG o21 true) (callK call 301 (fun tm => [g23 tm, (constE (.int .i64 (.ofNat 0))) tm, (constE (.int .i64 (.ofNat 281474976710655))) tm]) (put p24 ((F251j0 call round K)))) (put p24 ((F251j0 call round K)))
def F251j2 (call round : Caller) (K : Nat) : CF :=
  guardK (wantG o21 true) (load1K g22 (put p23 ((F251j1 call round K)))) (put p23 ((F251j1 call round K)))
def F251j3 (call round : Caller) (K : Nat) : CF :=
  pickK g16 g19 (constE (.bool false)) (put p20 (mv g20 p21 (guardK (wantG o21 true) (offK 4 g1 (put p22 ((F251j2 call round K)))) (put p22 ((F251j2 call round K))))))
def F251j4 (call round : Caller) (K : Nat) : CF :=
  guardK (wantG o16 true) (callK call 301 (fun tm => [g18 tm, (constE (.int .i64 (.ofNat 1))) tm, (constE (.int .i64 (.ofNat 4294967295))) tm]) (put p19 ((F251j3 call round K)))) (put p19 ((F251j3 call round K)))
def F251j5 (call round : Caller) (K : Nat) : CF :=
  guardK (wantG o16 true) (load1K g17 (put p18 ((F251j4 call round K)))) (put p18 ((F251j4 call round K)))
def F251j6 (call round : Caller) (K : Nat) : CF :=
  pickK g11 g14 (constE (.bool false)) (put p15 (mv g15 p16 (guardK (wantG o16 true) (offK 3 g1 (put p17 ((F251j5 call round K)))) (put p17 ((F251j5 call round K))))))
def F251j7 (call round : Caller) (K : Nat) : CF :=
  guardK (wantG o11 true) (callK call 301 (fun tm => [g13 tm, (constE (.int .i64 (.ofNat 0))) tm, (constE (.int .i64 (.ofNat 65535))) tm]) (put p14 ((F251j6 call round K)))) (put p14 ((F251j6 call round K)))
def F251j8 (call round : Caller) (K : Nat) : CF :=
  guardK (wantG o11 true) (load1K g12 (put p13 ((F251j7 call round K)))) (put p13 ((F251j7 call round K)))
def F251j9 (call round : Caller) (K : Nat) : CF :=
  pickK g6 g9 (constE (.bool false)) (put p10 (mv g10 p11 (guardK (wantG o11 true) (offK 2 g1 (put p12 ((F251j8 call round K)))) (put p12 ((F251j8 call round K))))))
def F251j10 (call round : Caller) (K : Nat) : CF :=
  guardK (wantG o6 true) (callK call 301 (fun tm => [g8 tm, (constE (.int .i64 (.ofNat 0))) tm, (constE (.int .i64 (.ofNat 65535))) tm]) (put p9 ((F251j9 call round K)))) (put p9 ((F251j9 call round K)))
def F251j11 (call round : Caller) (K : Nat) : CF :=
  guardK (wantG o6 true) (load1K g7 (put p8 ((F251j10 call round K)))) (put p8 ((F251j10 call round K)))
def F251 (call round : Caller) (K : Nat) : FnT := funC 26 (boxK 235 g0 (put p1 (mv (constE (.bool false)) p2 (offK 0 g1 (put p3 (load1K g3 (put p4 (callK call 301 (fun tm => [g4 tm, (constE (.int .i64 (.ofNat 1))) tm, (constE (.int .i64 (.ofNat 5))) tm]) (put p5 (mv g5 p6 (guardK (wantG o6 true) (offK 1 g1 (put p7 ((F251j11 call round K)))) (put p7 ((F251j11 call round K))))))))))))))
theorem F251_eq (call round : Caller) (K : Nat) : funF T3 call round K 251 = F251 call round K := by kernel_rfl

/-! 254 (*revetment/crc.Table).over -/
def F254ret : CF := (ret1 g6)
def F254j1 (call round : Caller) (K : Nat) (ih0 : CF) : CF :=
  intK gAdd (bin T3 .add 3) g11 (constE (.int .i64 (.ofNat 1))) (put p21 (mv g21 p11 (ih0)))
def F254j2 (call round : Caller) (K : Nat) (ih0 : CF) : CF :=
  ixSliK 1 g9 g11 (put p13 (load1K g13 (put p14 (mv g14 p8 (mv g0 p15 (nilK g15 (put p16 (loadNK 256 g16 (put p17 (mv g1 p18 (mv g8 p19 (callK call 303 (fun tm => [g17 tm, g18 tm, g19 tm]) (put p20 (mv g20 p1 ((F254j1 call round K ih0))))))))))))))))
def F254b3 (call round : Caller) (K : Nat) (ih0 : CF) : CF :=
  intK gLss (bin T3 .lss 3) g11 g10 (put p12 (condC g12 ((F254j2 call round K ih0)) (mv g1 p22 (mv g22 p6 (F254ret)))))
def F254 (call round : Caller) (K : Nat) : FnT := funC 23 (mv (constE (.int .u32 (.ofNat 0))) p6 (mv g2 p9 (lenK g9 (put p10 (mv (constE (.int .i64 (.ofNat 0))) p11 (loopC (F254b3 call round K) K))))))
theorem F254_eq (call round : Caller) (K : Nat) : funF T3 call round K 254 = F254 call round K := by kernel_rfl

/-! 258 (*revetment/zone.Zone[revetment/frame.Sector]).Len -/
def F258ret : CF := (ret1 g2)
def F258 (call round : Caller) (K : Nat) : FnT := funC 8 (mv (constE (.int .i64 (.ofNat 0))) p2 (mv g0 p3 (nilK g3 (put p4 (offK 0 g4 (put p5 (load1K g5 (put p6 (lenK g6 (put p7 (mv g7 p2 (F258ret))))))))))))
theorem F258_eq (call round : Caller) (K : Nat) : funF T3 call round K 258 = F258 call round K := by kernel_rfl

/-! 264 revetment/ckpt.Sectors -/
def F264ret : CF := (ret2 g6 g7)
def F264j0 (call round : Caller) (K : Nat) : CF :=
  mv g10 p44 (mv g44 p6 (mv (constE (.int .i64 (.ofNat 0))) p7 (F264ret)))
def F264j2 (call round : Caller) (K : Nat) (ih1 : CF) : CF :=
  intK gAdd (bin T3 .add 3) g26 (constE (.int .i64 (.ofNat 1))) (put p43 (mv g43 p26 (ih1)))
def F264j3 (call round : Caller) (K : Nat) (ih1 : CF) : CF :=
  mv g10 p39 (loadNK 64 g13 (put p40 (slowK (buildSliceM (List.replicate 64 (.int .u8 (.ofNat 0))) 44 64 1 (fun tm => [(0, g40 tm)])) (put p41 (slowK (appendM 44 64 g39 g41) (put p42 (mv g42 p10 ((F264j2 call round K ih1)))))))))
def F264j4 (call round : Caller) (K : Nat) (ih1 : CF) : CF :=
  ixSliK 49 g24 g26 (put p28 (loadNK 49 g28 (put p29 (allocK (List.replicate 5 (.int .i64 (.ofNat 0)) ++ List.replicate 44 (.int .u8 (.ofNat 0))) 235 (put p12 (storeK 49 g12 g29 (dropS (loadNK 256 g3 (put p31 (loadNK 49 g12 (put p32 (callK call 302 (fun tm => [g31 tm, g32 tm]) (put p33 (mv g33 p30 (extrK 0 g30 (put p34 (extrK 1 g30 (put p35 (allocK (List.replicate 64 (.int .u8 (.ofNat 0))) 44 (put p13 (storeK 64 g13 g34 (dropS (mv g35 p14 (mv g14 p36 (intK gNeq (bin T3 .neq 36) g36 (constE (.int .i64 (.ofNat 0))) (put p37 (condC g37 (mv g14 p38 (mv (constE .nilslice) p6 (mv g38 p7 (F264ret)))) ((F264j3 call round K ih1)))))))))))))))))))))))))))))
def F264b5 (call round : Caller) (K : Nat) (ih1 : CF) : CF :=
  intK gLss (bin T3 .lss 3) g26 g25 (put p27 (condC g27 ((F264j4 call round K ih1)) ((F264j0 call round K))))
def F264j6 (call round : Caller) (K : Nat) : CF :=
  mv (constE .nilslice) p10 (mv g8 p24 (lenK g24 (put p25 (mv (constE (.int .i64 (.ofNat 0))) p26 (loopC (F264b5 call round K) K)))))
def F264 (call round : Caller) (K : Nat) : FnT := funC 45 (boxK 125 g0 (put p3 (boxK 188 g1 (put p4 (mv (constE .nilslice) p6 (mv (constE (.int .i64 (.ofNat 0))) p7 (loadNK 4 g4 (put p16 (mv g2 p17 (callK call 247 (fun tm => [g16 tm, g17 tm]) (put p18 (mv g18 p15 (extrK 0 g15 (put p19 (extrK 1 g15 (put p20 (mv g19 p8 (mv g20 p9 (mv g9 p21 (intK gNeq (bin T3 .neq 36) g21 (constE (.int .i64 (.ofNat 0))) (put p22 (condC g22 (mv g9 p23 (mv (constE .nilslice) p6 (mv g23 p7 (F264ret)))) ((F264j6 call round K))))))))))))))))))))))))
theorem F264_eq (call round : Caller) (K : Nat) : funF T3 call round K 264 = F264 call round K := by kernel_rfl

/-! 265 (*revetment/area.Areas).clean -/
def F265ret : CF := (ret1 g4)
def F265j0 (call round : Caller) (K : Nat) : CF :=
  mv g0 p14 (nilK g14 (put p15 (offK 0 g15 (put p16 (load1K g16 (put p17 (callK call 114 (fun tm => [g17 tm]) (put p18 (mv g1 p19 (callK call 168 (fun tm => [g18 tm, g19 tm]) (put p20 (mv g20 p4 (F265ret)))))))))))))
def F265 (call round : Caller) (K : Nat) : FnT := funC 21 (mv (constE (.int .i64 (.ofNat 0))) p4 (mv g0 p5 (nilK g5 (put p6 (offK 0 g6 (put p7 (load1K g7 (put p8 (callK call 114 (fun tm => [g8 tm]) (put p9 (callK call 7 (fun tm => [g9 tm]) (put p10 (mv g1 p11 (callK call 138 (fun tm => [g10 tm, g11 tm]) (put p12 (intK gEql (bin T3 .eql 3) g12 (constE (.int .i64 (.ofNat 0))) (put p13 (condC g13 (mv (constE (.int .i64 (.ofNat 0))) p4 (F265ret)) ((F265j0 call round K))))))))))))))))))))
theorem F265_eq (call round : Caller) (K : Nat) : funF T3 call round K 265 = F265 call round K := by kernel_rfl

/-! 266 (*revetment/plan.Drive).Append -/
def F266ret : CF := (ret2 g6 g7)
def F266j0 (call round : Caller) (K : Nat) : CF :=
  mv g8 p32 (mv g9 p33 (mv g32 p6 (mv g33 p7 (F266ret))))
def F266 (call round : Caller) (K : Nat) : FnT := funC 34 (boxK 44 g2 (put p5 (mv (constE (.int .i64 (.ofNat 0))) p6 (mv (constE (.int .i64 (.ofNat 0))) p7 (mv g0 p10 (mv g1 p11 (callK call 220 (fun tm => [g10 tm, g11 tm]) (put p12 (drawC (fun tm h => adraw T3 call round 34 (regOps T3 266 2) tm h) (mv g9 p23 (intK gEql (bin T3 .eql 36) g23 (constE (.int .i64 (.ofNat 0))) (put p24 (condC g24 (mv g0 p25 (nilK g25 (put p26 (offK 3 g26 (put p27 (load1K g27 (put p28 (mv g1 p29 (mv g8 p30 (valK (buildV (nthPR [(0, 1), (1, 1)]) [(.int .i64 (.ofNat 0)), (.int .i64 (.ofNat 0))] (fun tm => [(0, g29 tm), (1, g30 tm)])) (put p31 (slowK (builtinM T3 .delete #[72, 361] (fun tm => [g28 tm, g31 tm])) (dropS ((F266j0 call round K))))))))))))))) ((F266j0 call round K)))))))))))))))
theorem F266_eq (call round : Caller) (K : Nat) : funF T3 call round K 266 = F266 call round K := by kernel_rfl

/-! 267 (*revetment/area.Areas).All -/
def F267ret : CF := (ret1 g2)
def F267 (call round : Caller) (K : Nat) : FnT := funC 4 (boxK 127 g0 (put p1 (mv (constE .nilfunc) p2 (valK (makeFuncV 320 (fun tm => []) (fun tm => [g1 tm])) (put p3 (mv g3 p2 (F267ret)))))))
theorem F267_eq (call round : Caller) (K : Nat) : funF T3 call round K 267 = F267 call round K := by kernel_rfl

/-! 268 (*revetment/pool.Pool).All -/
def F268ret : CF := (ret1 g2)
def F268 (call round : Caller) (K : Nat) : FnT := funC 4 (boxK 95 g0 (put p1 (mv (constE .nilfunc) p2 (valK (makeFuncV 321 (fun tm => []) (fun tm => [g1 tm])) (put p3 (mv g3 p2 (F268ret)))))))
theorem F268_eq (call round : Caller) (K : Nat) : funF T3 call round K 268 = F268 call round K := by kernel_rfl

/-! 269 (*revetment/zdev.Device).begin -/
def F269ret : CF := (ret1 g4)
def F269j0 (call round : Caller) (K : Nat) : CF :=
  mv g0 p15 (nilK g15 (put p16 (offK 3 g16 (put p17 (load1K g17 (put p18 (intK gAdd (bin T3 .add 3) g18 (constE (.int .i64 (.ofNat 1))) (put p19 (nilK g15 (put p20 (offK 3 g20 (put p21 (storeK 1 g21 g19 (dropS (mv (constE (.int .i64 (.ofNat 0))) p4 (F269ret))))))))))))))))
def F269 (call round : Caller) (K : Nat) : FnT := funC 22 (mv (constE (.int .i64 (.ofNat 0))) p4 (mv g0 p6 (nilK g6 (put p7 (offK 4 g7 (put p8 (load1K g8 (put p9 (mv g9 p5 (condC g5 (mv (constE (.int .i64 (.ofNat 34))) p4 (F269ret)) (mv g0 p11 (mv g1 p12 (callK call 182 (fun tm => [g11 tm, g12 tm]) (put p13 (notK g13 (put p14 (mv g14 p10 (condC g10 (mv (constE (.int .i64 (.ofNat 13))) p4 (F269ret)) ((F269j0 call round K))))))))))))))))))))
theorem F269_eq (call round : Caller) (K : Nat) : funF T3 call round K 269 = F269 call round K := by kernel_rfl

/-! 278 (*revetment/machine.Machine).chance -/
def F278ret : CF := ret0
def F278 (call round : Caller) (K : Nat) : FnT := funC 26 (drawC (fun tm h => adraw T3 call round 26 (regOps T3 278 0) tm h) (drawC (fun tm h => adraw T3 call round 26 (regOps T3 278 1) tm h) (F278ret)))
theorem F278_eq (call round : Caller) (K : Nat) : funF T3 call round K 278 = F278 call round K := by kernel_rfl

/-! 279 (*revetment/machine.Machine).only -/
def F279ret : CF := ret0
def F279 (call round : Caller) (K : Nat) : FnT := funC 11 (mv g0 p2 (mv g0 p3 (nilK g3 (put p4 (offK 9 g4 (put p5 (load1K g5 (put p6 (callK call 325 (fun tm => [g6 tm]) (put p7 (slowK (buildSliceM [.nilslice] 35 1 1 (fun tm => [(0, g7 tm)])) (put p8 (nilK g2 (put p9 (offK 11 g9 (put p10 (storeK 1 g10 g8 (dropS (F279ret)))))))))))))))))))
theorem F279_eq (call round : Caller) (K : Nat) : funF T3 call round K 279 = F279 call round K := by kernel_rfl

/-! 286 slices.Values[[]revetment/plan.Event,revetment/plan.Event] -/
def F286ret : CF := (ret1 g2)
def F286 (call round : Caller) (K : Nat) : FnT := funC 4 (boxK 71 g0 (put p1 (mv (constE .nilfunc) p2 (valK (makeFuncV 327 (fun tm => []) (fun tm => [g1 tm])) (put p3 (mv g3 p2 (F286ret)))))))
theorem F286_eq (call round : Caller) (K : Nat) : funF T3 call round K 286 = F286 call round K := by kernel_rfl

/-! 287 slices.All[[]revetment/frame.Sector,revetment/frame.Sector]$1 -/
def F287ret : CF := ret0
def F287j1 (call round : Caller) (K : Nat) (ih0 : CF) : CF :=
  intK gAdd (bin T3 .add 3) g7 (constE (.int .i64 (.ofNat 1))) (put p17 (mv g17 p7 (ih0)))
def F287j2 (call round : Caller) (K : Nat) (ih0 : CF) : CF :=
  mv g7 p9 (ixSliK 64 g5 g7 (put p10 (loadNK 64 g10 (put p11 (allocK (List.replicate 64 (.int .u8 (.ofNat 0))) 44 (put p4 (mv g9 p3 (storeK 64 g4 g11 (dropS (mv g0 p12 (mv g3 p13 (loadNK 64 g4 (put p14 (callVK call round g12 (fun tm => [g13 tm, g14 tm]) (put p15 (notK g15 (put p16 (condC g16 (F287ret) ((F287j1 call round K ih0))))))))))))))))))))
def F287b3 (call round : Caller) (K : Nat) (ih0 : CF) : CF :=
  intK gLss (bin T3 .lss 3) g7 g6 (put p8 (condC g8 ((F287j2 call round K ih0)) (F287ret)))
def F287 (call round : Caller) (K : Nat) : FnT := funC 18 (load1K g1 (put p5 (lenK g5 (put p6 (mv (constE (.int .i64 (.ofNat 0))) p7 (loopC (F287b3 call round K) K))))))
theorem F287_eq (call round : Caller) (K : Nat) : funF T3 call round K 287 = F287 call round K := by kernel_rfl

/-! 288 (revetment/crc.Table).Open -/
def F288ret : CF := (ret2 g4 g5)
def F288j0 (call round : Caller) (K : Nat) : CF :=
  slowK (buildSliceM [(.int .u8 (.ofNat 0))] 5 1 0 (fun tm => [])) (put p35 (mv g1 p36 (mv g6 p37 (valK (sliV 1 g36 (fun _ => none) (fun tm => some (g37 tm)) (fun _ => none)) (put p38 (slowK (appendM 5 1 g35 g38) (put p39 (mv g39 p4 (mv (constE (.int .i64 (.ofNat 0))) p5 (F288ret))))))))))
def F288j2 (call round : Caller) (K : Nat) (ih1 : CF) : CF :=
  intK gAdd (bin T3 .add 3) g24 (constE (.int .i64 (.ofNat 1))) (put p34 (mv g34 p24 (ih1)))
def F288j3 (call round : Caller) (K : Nat) (ih1 : CF) : CF :=
  mv g7 p32 (binK (bin T3 .shr 123) g32 (constE (.int .u64 (.ofNat 8))) (put p33 (mv g33 p7 ((F288j2 call round K ih1)))))
def F288j4 (call round : Caller) (K : Nat) (ih1 : CF) : CF :=
  ixSliK 1 g22 g24 (put p26 (load1K g26 (put p27 (mv g27 p9 (mv g9 p28 (mv g7 p29 (convK .u8 g29 (put p30 (intK gNeq (bin T3 .neq 5) g28 g30 (put p31 (condC g31 (mv (constE .nilslice) p4 (mv (constE (.int .i64 (.ofNat 11))) p5 (F288ret))) ((F288j3 call round K ih1)))))))))))))
def F288b5 (call round : Caller) (K : Nat) (ih1 : CF) : CF :=
  intK gLss (bin T3 .lss 3) g24 g23 (put p25 (condC g25 ((F288j4 call round K ih1)) ((F288j0 call round K))))
def F288j6 (call round : Caller) (K : Nat) : CF :=
  drawC (fun tm h => adraw T3 call round 40 (regOps T3 288 4) tm h) (mv g1 p20 (mv g6 p21 (valK (sliV 1 g20 (fun tm => some (g21 tm)) (fun _ => none) (fun _ => none)) (put p22 (lenK g22 (put p23 (mv (constE (.int .i64 (.ofNat 0))) p24 (loopC (F288b5 call round K) K))))))))
def F288 (call round : Caller) (K : Nat) : FnT := funC 40 (boxK 125 g0 (put p2 (mv (constE .nilslice) p4 (mv (constE (.int .i64 (.ofNat 0))) p5 (mv g1 p10 (lenK g10 (put p11 (intK gSub (bin T3 .sub 3) g11 (constE (.int .i64 (.ofNat 4))) (put p12 (mv g12 p6 (mv g6 p13 (intK gLss (bin T3 .lss 3) g13 (constE (.int .i64 (.ofNat 0))) (put p14 (condC g14 (mv (constE .nilslice) p4 (mv (constE (.int .i64 (.ofNat 14))) p5 (F288ret))) ((F288j6 call round K))))))))))))))))
theorem F288_eq (call round : Caller) (K : Nat) : funF T3 call round K 288 = F288 call round K := by kernel_rfl

/-! 289 revetment/codec.New -/
def F289ret : CF := (ret1 g2)
def F289 (call round : Caller) (K : Nat) : FnT := funC 8 (mv (constE .nilptr) p2 (slowK (buildSliceM [(.int .u8 (.ofNat 0))] 5 1 0 (fun tm => [])) (put p3 (mv g0 p4 (slowK (appendM 5 1 g3 g4) (put p5 (valK (buildV (nthPR [(0, 1), (1, 1)]) [.nilslice, (.bool false)] (fun tm => [(0, g5 tm)])) (put p6 (boxK 408 g6 (put p7 (mv g7 p2 (F289ret))))))))))))
theorem F289_eq (call round : Caller) (K : Nat) : funF T3 call round K 289 = F289 call round K := by kernel_rfl

/-! 290 (*revetment/codec.Reader).Num -/
def F290ret : CF := (ret1 g4)
def F290j1 (call round : Caller) (K : Nat) (ih0 : CF) : CF :=
  intK gAdd (bin T3 .add 3) g17 (constE (.int .i64 (.ofNat 1))) (put p30 (mv g30 p17 (ih0)))
def F290j2 (call round : Caller) (K : Nat) (ih0 : CF) : CF :=
  mv g17 p19 (ixSliK 1 g15 g17 (put p20 (load1K g20 (put p21 (mv g19 p6 (mv g21 p7 (mv g5 p22 (mv g7 p23 (convK .i64 g23 (put p24 (mv g6 p25 (intK gMul (bin T3 .mul 3) (constE (.int .i64 (.ofNat 8))) g25 (put p26 (convK .u64 g26 (put p27 (binK (bin T3 .shl 3) g24 g27 (put p28 (binK (bin T3 .or 3) g22 g28 (put p29 (mv g29 p5 ((F290j1 call round K ih0))))))))))))))))))))))
def F290b3 (call round : Caller) (K : Nat) (ih0 : CF) : CF :=
  intK gLss (bin T3 .lss 3) g17 g16 (put p18 (condC g18 ((F290j2 call round K ih0)) (mv g5 p31 (mv g31 p4 (F290ret)))))
def F290j4 (call round : Caller) (K : Nat) : CF :=
  mv (constE (.int .i64 (.ofNat 0))) p5 (mv g0 p13 (mv g1 p14 (callK call 329 (fun tm => [g13 tm, g14 tm]) (put p15 (lenK g15 (put p16 (mv (constE (.int .i64 (.ofNat 0))) p17 (loopC (F290b3 call round K) K))))))))
def F290 (call round : Caller) (K : Nat) : FnT := funC 32 (mv (constE (.int .i64 (.ofNat 0))) p4 (mv g1 p8 (callK call 328 (fun tm => [g8 tm]) (put p9 (notK g9 (put p10 (condC g10 (mv g0 p11 (callK call 329 (fun tm => [g11 tm, (constE (.int .i64 (.negSucc 0))) tm]) (put p12 (mv (constE (.int .i64 (.ofNat 0))) p4 (F290ret))))) ((F290j4 call round K)))))))))
theorem F290_eq (call round : Caller) (K : Nat) : funF T3 call round K 290 = F290 call round K := by kernel_rfl

/-! 291 (*revetment/codec.Reader).Bytes -/
def F291ret : CF := (ret1 g4)
def F291 (call round : Caller) (K : Nat) : FnT := funC 8 (mv (constE .nilslice) p4 (mv g0 p5 (mv g1 p6 (callK call 329 (fun tm => [g5 tm, g6 tm]) (put p7 (mv g7 p4 (F291ret)))))))
theorem F291_eq (call round : Caller) (K : Nat) : funF T3 call round K 291 = F291 call round K := by kernel_rfl

/-! 292 (*revetment/codec.Reader).Done -/
def F292ret : CF := (ret1 g2)
def F292j0 (call round : Caller) (K : Nat) : CF :=
  mv (constE (.int .i64 (.ofNat 0))) p2 (F292ret)
def F292j1 (call round : Caller) (K : Nat) : CF :=
  pickK g7 (constE (.bool true)) g13 (put p14 (condC g14 (mv (constE (.int .i64 (.ofNat 14))) p2 (F292ret)) ((F292j0 call round K))))
def F292j2 (call round : Caller) (K : Nat) : CF :=
  guardK (wantG o7 false) (intK gGtr (bin T3 .gtr 3) g12 (constE (.int .i64 (.ofNat 0))) (put p13 ((F292j1 call round K)))) (put p13 ((F292j1 call round K)))
def F292j3 (call round : Caller) (K : Nat) : CF :=
  guardK (wantG o7 false) (lenK g11 (put p12 ((F292j2 call round K)))) (put p12 ((F292j2 call round K)))
def F292j4 (call round : Caller) (K : Nat) : CF :=
  guardK (wantG o7 false) (load1K g10 (put p11 ((F292j3 call round K)))) (put p11 ((F292j3 call round K)))
def F292j5 (call round : Caller) (K : Nat) : CF :=
  guardK (wantG o7 false) (offK 0 g9 (put p10 ((F292j4 call round K)))) (put p10 ((F292j4 call round K)))
def F292j6 (call round : Caller) (K : Nat) : CF :=
  guardK (wantG o7 false) (nilK g8 (put p9 ((F292j5 call round K)))) (put p9 ((F292j5 call round K)))
def F292 (call round : Caller) (K : Nat) : FnT := funC 15 (mv (constE (.int .i64 (.ofNat 0))) p2 (mv g0 p3 (nilK g3 (put p4 (offK 1 g4 (put p5 (load1K g5 (put p6 (mv g6 p7 (guardK (wantG o7 false) (moveK g0 (put p8 ((F292j6 call round K)))) (put p8 ((F292j6 call round K)))))))))))))
theorem F292_eq (call round : Caller) (K : Nat) : funF T3 call round K 292 = F292 call round K := by kernel_rfl

/-! 293 revetment/snap.take -/
def F293ret : CF := (retC T3 [.cell 2 135])
def F293 (call round : Caller) (K : Nat) : FnT := funC 23 (allocK [(.int .i64 (.ofNat 0)), (.int .i64 (.ofNat 0)), (.int .i64 (.ofNat 0)), (.int .i64 (.ofNat 0)), (.int .i64 (.ofNat 0)), (.int .i64 (.ofNat 0))] 135 (put p2 (mv g0 p4 (callK call 290 (fun tm => [g4 tm, (constE (.int .i64 (.ofNat 1))) tm]) (put p5 (valK (buildV (nthPR [(0, 1), (1, 1), (2, 1), (3, 1), (4, 1), (5, 1)]) [(.int .i64 (.ofNat 0)), (.int .i64 (.ofNat 0)), (.int .i64 (.ofNat 0)), (.int .i64 (.ofNat 0)), (.int .i64 (.ofNat 0)), (.int .i64 (.ofNat 0))] (fun tm => [(0, g5 tm)])) (put p6 (allocK [(.int .i64 (.ofNat 0)), (.int .i64 (.ofNat 0)), (.int .i64 (.ofNat 0)), (.int .i64 (.ofNat 0)), (.int .i64 (.ofNat 0)), (.int .i64 (.ofNat 0))] 135 (put p3 (storeK 6 g3 g6 (dropS (mv g0 p7 (callK call 290 (fun tm => [g7 tm, (constE (.int .i64 (.ofNat 2))) tm]) (put p8 (mv g0 p9 (callK call 290 (fun tm => [g9 tm, (constE (.int .i64 (.ofNat 2))) tm]) (put p10 (mv g0 p11 (callK call 290 (fun tm => [g11 tm, (constE (.int .i64 (.ofNat 1))) tm]) (put p12 (offK 1 g3 (put p13 (storeK 1 g13 g8 (dropS (offK 2 g3 (put p14 (storeK 1 g14 g10 (dropS (offK 3 g3 (put p15 (storeK 1 g15 g12 (dropS (mv g0 p16 (callK call 290 (fun tm => [g16 tm, (constE (.int .i64 (.ofNat 6))) tm]) (put p17 (mv g0 p18 (callK call 290 (fun tm => [g18 tm, (constE (.int .i64 (.ofNat 4))) tm]) (put p19 (offK 4 g3 (put p20 (storeK 1 g20 g17 (dropS (offK 5 g3 (put p21 (storeK 1 g21 g19 (dropS (loadNK 6 g3 (put p22 (storeK 6 g2 g22 (dropS (F293ret)))))))))))))))))))))))))))))))))))))))))))))))))))
theorem F293_eq (call round : Caller) (K : Nat) : funF T3 call round K 293 = F293 call round K := by kernel_rfl

/-! 294 revetment/snap.head -/
def F294ret : CF := (retC T3 [.cell 2 233])
def F294 (call round : Caller) (K : Nat) : FnT := funC 40 (boxK 188 g0 (put p1 (allocK (List.replicate 44 (.int .u8 (.ofNat 0))) 233 (put p2 (offK 3 g1 (put p5 (load1K g5 (put p6 (callK call 122 (fun tm => [g6 tm]) (put p7 (allocK [(.int .i64 (.ofNat 0)), (.int .i64 (.ofNat 0)), (.int .i64 (.ofNat 0)), (.int .i64 (.ofNat 0)), (.int .i64 (.ofNat 0)), (.int .i64 (.ofNat 0))] 23 (put p3 (storeK 6 g3 g7 (dropS (valK (buildV (nthPR [(0, 1), (1, 1)]) [.nilslice, (.bool false)] (fun tm => [])) (put p8 (boxK 383 g8 (put p9 (mv g9 p4 (mv g4 p10 (offK 2 g1 (put p11 (load1K g11 (put p12 (callK call 298 (fun tm => [g10 tm, (constE (.int .i64 (.ofNat 6))) tm, g12 tm]) (put p13 (mv g4 p14 (offK 0 g3 (put p15 (load1K g15 (put p16 (callK call 298 (fun tm => [g14 tm, (constE (.int .i64 (.ofNat 1))) tm, g16 tm]) (put p17 (mv g4 p18 (offK 1 g3 (put p19 (load1K g19 (put p20 (callK call 298 (fun tm => [g18 tm, (constE (.int .i64 (.ofNat 1))) tm, g20 tm]) (put p21 (mv g4 p22 (offK 2 g3 (put p23 (load1K g23 (put p24 (callK call 298 (fun tm => [g22 tm, (constE (.int .i64 (.ofNat 1))) tm, g24 tm]) (put p25 (mv g4 p26 (offK 3 g3 (put p27 (load1K g27 (put p28 (callK call 298 (fun tm => [g26 tm, (constE (.int .i64 (.ofNat 2))) tm, g28 tm]) (put p29 (mv g4 p30 (offK 4 g3 (put p31 (load1K g31 (put p32 (callK call 298 (fun tm => [g30 tm, (constE (.int .i64 (.ofNat 1))) tm, g32 tm]) (put p33 (mv g4 p34 (offK 5 g3 (put p35 (load1K g35 (put p36 (callK call 298 (fun tm => [g34 tm, (constE (.int .i64 (.ofNat 1))) tm, g36 tm]) (put p37 (mv g4 p38 (callK call 330 (fun tm => [g38 tm]) (put p39 (storeK 44 g2 g39 (dropS (F294ret))))))))))))))))))))))))))))))))))))))))))))))))))))))))))))))))))))))))))
theorem F294_eq (call round : Caller) (K : Nat) : funF T3 call round K 294 = F294 call round K := by kernel_rfl

/-! 295 revetment/snap.part -/
def F295ret : CF := (retC T3 [.cell 4 233])
def F295j0 (call round : Caller) (K : Nat) : CF :=
  mv g5 p32 (callK call 330 (fun tm => [g32 tm]) (put p33 (storeK 44 g4 g33 (dropS (F295ret)))))
def F295j2 (call round : Caller) (K : Nat) (ih1 : CF) : CF :=
  intK gAdd (bin T3 .add 3) g14 (constE (.int .i64 (.ofNat 1))) (put p31 (mv g31 p14 (ih1)))
def F295j3 (call round : Caller) (K : Nat) (ih1 : CF) : CF :=
  mv g14 p16 (mv g16 p6 (offK 3 g2 (put p18 (load1K g18 (put p19 (mv g1 p20 (intK gSub (bin T3 .sub 3) g20 (constE (.int .i64 (.ofNat 1))) (put p21 (intK gMul (bin T3 .mul 3) (constE (.int .i64 (.ofNat 2))) g21 (put p22 (mv g6 p23 (intK gAdd (bin T3 .add 3) g22 g23 (put p24 (callK call 104 (fun tm => [g19 tm, g24 tm]) (put p25 (mv g25 p17 (extrK 0 g17 (put p26 (extrK 1 g17 (put p27 (allocK [(.int .i64 (.ofNat 0)), (.int .i64 (.ofNat 0)), (.int .i64 (.ofNat 0)), (.int .i64 (.ofNat 0)), (.int .i64 (.ofNat 0)), (.int .i64 (.ofNat 0))] 135 (put p7 (storeK 6 g7 g26 (dropS (mv g27 p8 (mv g5 p28 (loadNK 6 g7 (put p29 (callK call 331 (fun tm => [g28 tm, g29 tm]) (put p30 ((F295j2 call round K ih1))))))))))))))))))))))))))))))))
def F295b4 (call round : Caller) (K : Nat) (ih1 : CF) : CF :=
  intK gLss (bin T3 .lss 3) g14 (constE (.int .i64 (.ofNat 2))) (put p15 (condC g15 ((F295j3 call round K ih1)) ((F295j0 call round K))))
def F295 (call round : Caller) (K : Nat) : FnT := funC 34 (boxK 188 g0 (put p2 (allocK (List.replicate 44 (.int .u8 (.ofNat 0))) 233 (put p4 (valK (buildV (nthPR [(0, 1), (1, 1)]) [.nilslice, (.bool false)] (fun tm => [])) (put p9 (boxK 383 g9 (put p10 (mv g10 p5 (mv g5 p11 (mv g1 p12 (callK call 298 (fun tm => [g11 tm, (constE (.int .i64 (.ofNat 1))) tm, g12 tm]) (put p13 (mv (constE (.int .i64 (.ofNat 0))) p14 (loopC (F295b4 call round K) K)))))))))))))))
theorem F295_eq (call round : Caller) (K : Nat) : funF T3 call round K 295 = F295 call round K := by kernel_rfl

/-! 296 (*revetment/zone.Zone[revetment/frame.Sector]).Finish -/
def F296ret : CF := (ret1 g2)
def F296j0 (call round : Caller) (K : Nat) : CF :=
  mv g0 p9 (mv g0 p10 (nilK g9 (put p11 (offK 3 g11 (put p12 (storeK 1 g12 (constE (.int .i64 (.ofNat 2))) (dropS (nilK g10 (put p13 (offK 4 g13 (put p14 (storeK 1 g14 (constE (.bool true)) (dropS (mv (constE (.int .i64 (.ofNat 0))) p2 (F296ret)))))))))))))))
def F296 (call round : Caller) (K : Nat) : FnT := funC 15 (mv (constE (.int .i64 (.ofNat 0))) p2 (mv g0 p4 (callK call 323 (fun tm => [g4 tm]) (put p5 (mv g5 p3 (mv g3 p6 (intK gNeq (bin T3 .neq 36) g6 (constE (.int .i64 (.ofNat 0))) (put p7 (condC g7 (mv g3 p8 (mv g8 p2 (F296ret))) ((F296j0 call round K)))))))))))
theorem F296_eq (call round : Caller) (K : Nat) : funF T3 call round K 296 = F296 call round K := by kernel_rfl

/-! 298 (*revetment/codec.Pen).Num -/
def F298ret : CF := ret0
def F298j1 (call round : Caller) (K : Nat) (ih0 : CF) : CF :=
  intK gAdd (bin T3 .add 3) g19 (constE (.int .i64 (.ofNat 1))) (put p34 (mv g34 p19 (ih0)))
def F298j2 (call round : Caller) (K : Nat) (ih0 : CF) : CF :=
  mv g0 p21 (mv g0 p22 (nilK g22 (put p23 (offK 0 g23 (put p24 (load1K g24 (put p25 (mv g2 p26 (convK .u8 g26 (put p27 (slowK (buildSliceM [(.int .u8 (.ofNat 0))] 5 1 1 (fun tm => [(0, g27 tm)])) (put p28 (slowK (appendM 5 1 g25 g28) (put p29 (nilK g21 (put p30 (offK 0 g30 (put p31 (storeK 1 g31 g29 (dropS (mv g2 p32 (binK (bin T3 .shr 3) g32 (constE (.int .u64 (.ofNat 8))) (put p33 (mv g33 p2 ((F298j1 call round K ih0))))))))))))))))))))))))))
def F298b3 (call round : Caller) (K : Nat) (ih0 : CF) : CF :=
  intK gLss (bin T3 .lss 3) g19 g18 (put p20 (condC g20 ((F298j2 call round K ih0)) (F298ret)))
def F298j4 (call round : Caller) (K : Nat) : CF :=
  mv g1 p18 (mv (constE (.int .i64 (.ofNat 0))) p19 (loopC (F298b3 call round K) K))
def F298j5 (call round : Caller) (K : Nat) : CF :=
  pickK g9 (constE (.bool true)) g13 (put p14 (condC g14 (mv g0 p15 (nilK g15 (put p16 (offK 1 g16 (put p17 (storeK 1 g17 (constE (.bool true)) (dropS (F298ret)))))))) ((F298j4 call round K))))
def F298j6 (call round : Caller) (K : Nat) : CF :=
  guardK (wantG o9 false) (intK gGtr (bin T3 .gtr 3) g11 g12 (put p13 ((F298j5 call round K)))) (put p13 ((F298j5 call round K)))
def F298j7 (call round : Caller) (K : Nat) : CF :=
  guardK (wantG o9 false) (moveK g1 (put p12 ((F298j6 call round K)))) (put p12 ((F298j6 call round K)))
def F298j8 (call round : Caller) (K : Nat) : CF :=
  guardK (wantG o9 false) (callK call 334 (fun tm => [g10 tm]) (put p11 ((F298j7 call round K)))) (put p11 ((F298j7 call round K)))
def F298 (call round : Caller) (K : Nat) : FnT := funC 35 (mv g1 p6 (callK call 328 (fun tm => [g6 tm]) (put p7 (notK g7 (put p8 (mv g8 p9 (guardK (wantG o9 false) (moveK g2 (put p10 ((F298j8 call round K)))) (put p10 ((F298j8 call round K))))))))))
theorem F298_eq (call round : Caller) (K : Nat) : funF T3 call round K 298 = F298 call round K := by kernel_rfl

/-! 299 (*revetment/codec.Pen).Bytes -/
def F299ret : CF := ret0
def F299 (call round : Caller) (K : Nat) : FnT := funC 13 (mv g0 p4 (mv g0 p5 (nilK g5 (put p6 (offK 0 g6 (put p7 (load1K g7 (put p8 (mv g1 p9 (slowK (appendM 5 1 g8 g9) (put p10 (nilK g4 (put p11 (offK 0 g11 (put p12 (storeK 1 g12 g10 (dropS (F299ret))))))))))))))))))
theorem F299_eq (call round : Caller) (K : Nat) : funF T3 call round K 299 = F299 call round K := by kernel_rfl

/-! 300 (*revetment/codec.Pen).Out -/
def F300ret : CF := (ret2 g2 g3)
def F300j0 (call round : Caller) (K : Nat) : CF :=
  slowK (buildSliceM [(.int .u8 (.ofNat 0))] 5 1 0 (fun tm => [])) (put p8 (mv g0 p9 (nilK g9 (put p10 (offK 0 g10 (put p11 (load1K g11 (put p12 (slowK (appendM 5 1 g8 g12) (put p13 (mv g13 p2 (mv (constE (.int .i64 (.ofNat 0))) p3 (F300ret)))))))))))))
def F300 (call round : Caller) (K : Nat) : FnT := funC 14 (mv (constE .nilslice) p2 (mv (constE (.int .i64 (.ofNat 0))) p3 (mv g0 p4 (nilK g4 (put p5 (offK 1 g5 (put p6 (load1K g6 (put p7 (condC g7 (mv (constE .nilslice) p2 (mv (constE (.int .i64 (.ofNat 13))) p3 (F300ret))) ((F300j0 call round K))))))))))))
theorem F300_eq (call round : Caller) (K : Nat) : funF T3 call round K 300 = F300 call round K := by kernel_rfl

/-! 301 revetment/frame.within -/
def F301ret : CF := (ret1 g6)
def F301j0 (call round : Caller) (K : Nat) : CF :=
  pickK g10 g13 (constE (.bool false)) (put p14 (mv g14 p6 (F301ret)))
def F301j1 (call round : Caller) (K : Nat) : CF :=
  guardK (wantG o10 true) (intK gLeq (bin T3 .leq 3) g11 g12 (put p13 ((F301j0 call round K)))) (put p13 ((F301j0 call round K)))
def F301j2 (call round : Caller) (K : Nat) : CF :=
  guardK (wantG o10 true) (moveK g2 (put p12 ((F301j1 call round K)))) (put p12 ((F301j1 call round K)))
def F301 (call round : Caller) (K : Nat) : FnT := funC 15 (mv (constE (.bool false)) p6 (mv g0 p7 (mv g1 p8 (intK gGeq (bin T3 .geq 3) g7 g8 (put p9 (mv g9 p10 (guardK (wantG o10 true) (moveK g0 (put p11 ((F301j2 call round K)))) (put p11 ((F301j2 call round K))))))))))
theorem F301_eq (call round : Caller) (K : Nat) : funF T3 call round K 301 = F301 call round K := by kernel_rfl

/-! 302 revetment/frame.Encode -/
def F302ret : CF := (retC T3 [.cell 4 44, .tmp 5])
def F302j0 (call round : Caller) (K : Nat) : CF :=
  loadNK 256 g2 (put p40 (mv g7 p41 (callK call 335 (fun tm => [g40 tm, g41 tm]) (put p42 (valK (s2apV 64 g42) (put p43 (loadNK 64 g43 (put p44 (storeK 64 g4 g44 (dropS (mv (constE (.int .i64 (.ofNat 0))) p5 (F302ret))))))))))))
def F302j1 (call round : Caller) (K : Nat) : CF :=
  allocK [.nilslice, (.bool false)] 383 (put p6 (offK 0 g3 (put p13 (load1K g13 (put p14 (callK call 298 (fun tm => [g6 tm, (constE (.int .i64 (.ofNat 1))) tm, g14 tm]) (put p15 (callK call 298 (fun tm => [g6 tm, (constE (.int .i64 (.ofNat 1))) tm, (constE (.int .i64 (.ofNat 1))) tm]) (put p16 (offK 1 g3 (put p17 (load1K g17 (put p18 (callK call 298 (fun tm => [g6 tm, (constE (.int .i64 (.ofNat 2))) tm, g18 tm]) (put p19 (offK 2 g3 (put p20 (load1K g20 (put p21 (callK call 298 (fun tm => [g6 tm, (constE (.int .i64 (.ofNat 2))) tm, g21 tm]) (put p22 (offK 3 g3 (put p23 (load1K g23 (put p24 (callK call 298 (fun tm => [g6 tm, (constE (.int .i64 (.ofNat 4))) tm, g24 tm]) (put p25 (offK 4 g3 (put p26 (load1K g26 (put p27 (callK call 298 (fun tm => [g6 tm, (constE (.int .i64 (.ofNat 6))) tm, g27 tm]) (put p28 (offK 5 g3 (put p29 (valK (sliArrV 44 1 g29 (fun _ => none) (fun _ => none) (fun _ => none)) (put p30 (callK call 299 (fun tm => [g6 tm, g30 tm]) (put p31 (callK call 300 (fun tm => [g6 tm]) (put p33 (mv g33 p32 (extrK 0 g32 (put p34 (extrK 1 g32 (put p35 (mv g34 p7 (mv g35 p8 (mv g8 p36 (intK gNeq (bin T3 .neq 36) g36 (constE (.int .i64 (.ofNat 0))) (put p37 (condC g37 (valK (buildV (evenP 1) (List.replicate 64 (.int .u8 (.ofNat 0))) (fun tm => [])) (put p38 (mv g8 p39 (storeK 64 g4 g38 (dropS (mv g39 p5 (F302ret))))))) ((F302j0 call round K))))))))))))))))))))))))))))))))))))))))))))))))))))))
def F302 (call round : Caller) (K : Nat) : FnT := funC 45 (boxK 125 g0 (put p2 (boxK 235 g1 (put p3 (allocK (List.replicate 64 (.int .u8 (.ofNat 0))) 44 (put p4 (mv (constE (.int .i64 (.ofNat 0))) p5 (loadNK 49 g3 (put p9 (callK call 251 (fun tm => [g9 tm]) (put p10 (notK g10 (put p11 (condC g11 (valK (buildV (evenP 1) (List.replicate 64 (.int .u8 (.ofNat 0))) (fun tm => [])) (put p12 (storeK 64 g4 g12 (dropS (mv (constE (.int .i64 (.ofNat 10))) p5 (F302ret)))))) ((F302j1 call round K))))))))))))))))
theorem F302_eq (call round : Caller) (K : Nat) : funF T3 call round K 302 = F302 call round K := by kernel_rfl

/-! 303 (revetment/crc.Table).Step -/
def F303ret : CF := (ret1 g6)
def F303 (call round : Caller) (K : Nat) : FnT := funC 16 (boxK 125 g0 (put p3 (mv (constE (.int .u32 (.ofNat 0))) p6 (mv g1 p7 (binK (bin T3 .shr 123) g7 (constE (.int .u64 (.ofNat 8))) (put p8 (mv g1 p9 (convK .u8 g9 (put p10 (mv g2 p11 (binK (bin T3 .xor 5) g10 g11 (put p12 (ixArrK 256 1 g3 g12 (put p13 (load1K g13 (put p14 (binK (bin T3 .xor 123) g8 g14 (put p15 (mv g15 p6 (F303ret))))))))))))))))))))
theorem F303_eq (call round : Caller) (K : Nat) : funF T3 call round K 303 = F303 call round K := by kernel_rfl

/-! 319 (*revetment/zdev.Device).Append -/
def F319ret : CF := (ret2 g6 g7)
def F319j0 (call round : Caller) (K : Nat) : CF :=
  drawC (fun tm h => adraw T3 call round 44 (regOps T3 319 6) tm h) (F319ret)
def F319j1 (call round : Caller) (K : Nat) : CF :=
  drawC (fun tm h => adraw T3 call round 44 (regOps T3 319 4) tm h) (condC g32 (mv (constE (.int .i64 (.ofNat 0))) p6 (mv (constE (.int .i64 (.ofNat 33))) p7 (F319ret))) ((F319j0 call round K)))
def F319 (call round : Caller) (K : Nat) : FnT := funC 44 (boxK 44 g2 (put p5 (mv (constE (.int .i64 (.ofNat 0))) p6 (mv (constE (.int .i64 (.ofNat 0))) p7 (mv g0 p9 (mv g1 p10 (callK call 269 (fun tm => [g9 tm, g10 tm]) (put p11 (mv g11 p8 (mv g8 p12 (intK gNeq (bin T3 .neq 36) g12 (constE (.int .i64 (.ofNat 0))) (put p13 (condC g13 (mv g8 p14 (mv (constE (.int .i64 (.ofNat 0))) p6 (mv g14 p7 (F319ret)))) ((F319j1 call round K)))))))))))))))
theorem F319_eq (call round : Caller) (K : Nat) : funF T3 call round K 319 = F319 call round K := by kernel_rfl

/-! 320 (*revetment/area.Areas).All$1 -/
def F320ret : CF := ret0
def F320j1 (call round : Caller) (K : Nat) (ih0 : CF) : CF :=
  intK gAdd (bin T3 .add 3) g11 (constE (.int .i64 (.ofNat 1))) (put p31 (mv g31 p11 (ih0)))
def F320j3 (call round : Caller) (K : Nat) (ih0 : CF) (ih2 : CF) : CF :=
  intK gAdd (bin T3 .add 3) g19 (constE (.int .i64 (.ofNat 1))) (put p30 (mv g30 p19 (ih2)))
def F320j4 (call round : Caller) (K : Nat) (ih0 : CF) (ih2 : CF) : CF :=
  pickK g24 g28 (constE (.bool false)) (put p29 (condC g29 (F320ret) ((F320j3 call round K ih0 ih2))))
def F320j5 (call round : Caller) (K : Nat) (ih0 : CF) (ih2 : CF) : CF :=
  guardK (wantG o24 true) (notK g27 (put p28 ((F320j4 call round K ih0 ih2)))) (put p28 ((F320j4 call round K ih0 ih2)))
def F320j6 (call round : Caller) (K : Nat) (ih0 : CF) (ih2 : CF) : CF :=
  guardK (wantG o24 true) (callVK call round g25 (fun tm => [g26 tm]) (put p27 ((F320j5 call round K ih0 ih2)))) (put p27 ((F320j5 call round K ih0 ih2)))
def F320j7 (call round : Caller) (K : Nat) (ih0 : CF) (ih2 : CF) : CF :=
  guardK (wantG o24 true) (moveK g6 (put p26 ((F320j6 call round K ih0 ih2)))) (put p26 ((F320j6 call round K ih0 ih2)))
def F320j8 (call round : Caller) (K : Nat) (ih0 : CF) (ih2 : CF) : CF :=
  ixValK 2 1 false 1 g18 g19 (put p21 (mv g21 p6 (mv g6 p22 (intK gNeq (bin T3 .neq 3) g22 (constE (.int .i64 (.negSucc 0))) (put p23 (mv g23 p24 (guardK (wantG o24 true) (moveK g0 (put p25 ((F320j7 call round K ih0 ih2)))) (put p25 ((F320j7 call round K ih0 ih2))))))))))
def F320b9 (call round : Caller) (K : Nat) (ih0 : CF) (ih2 : CF) : CF :=
  intK gLss (bin T3 .lss 3) g19 (constE (.int .i64 (.ofNat 2))) (put p20 (condC g20 ((F320j8 call round K ih0 ih2)) ((F320j1 call round K ih0))))
def F320j10 (call round : Caller) (K : Nat) (ih0 : CF) : CF :=
  ixValK 3 2 true 2 g10 g11 (put p13 (allocK [(.int .i64 (.ofNat 0)), (.int .i64 (.ofNat 0))] 240 (put p4 (storeK 2 g4 g13 (dropS (offK 0 g4 (put p14 (load1K g14 (put p15 (offK 1 g4 (put p16 (load1K g16 (put p17 (valK (buildV (evenP 1) [(.int .i64 (.ofNat 0)), (.int .i64 (.ofNat 0))] (fun tm => [(0, g15 tm), (1, g17 tm)])) (put p18 (mv (constE (.int .i64 (.ofNat 0))) p19 (loopC (F320b9 call round K ih0) K)))))))))))))))))
def F320b11 (call round : Caller) (K : Nat) (ih0 : CF) : CF :=
  intK gLss (bin T3 .lss 3) g11 (constE (.int .i64 (.ofNat 3))) (put p12 (condC g12 ((F320j10 call round K ih0)) (F320ret)))
def F320 (call round : Caller) (K : Nat) : FnT := funC 32 (load1K g1 (put p7 (nilK g7 (put p8 (offK 1 g8 (put p9 (loadNK 6 g9 (put p10 (mv (constE (.int .i64 (.ofNat 0))) p11 (loopC (F320b11 call round K) K))))))))))
theorem F320_eq (call round : Caller) (K : Nat) : funF T3 call round K 320 = F320 call round K := by kernel_rfl

/-! 321 (*revetment/pool.Pool).All$1 -/
def F321ret : CF := ret0
def F321j1 (call round : Caller) (K : Nat) (ih0 : CF) : CF :=
  intK gAdd (bin T3 .add 3) g12 (constE (.int .i64 (.ofNat 1))) (put p26 (mv g26 p12 (ih0)))
def F321j2 (call round : Caller) (K : Nat) (ih0 : CF) : CF :=
  mv g12 p14 (ixSliK 1 g10 g12 (put p15 (load1K g15 (put p16 (allocK [(.int .i64 (.ofNat 0))] 3 (put p3 (storeK 1 g3 g14 (dropS (mv g16 p4 (mv g4 p17 (callK call 322 (fun tm => [g17 tm]) (put p18 (rangeS T3 call 321 27 none 0 (fun _ => badC) [(2, (F321j1 call round K ih0)), (1, (F321j1 call round K ih0)), (0, F321ret)] F321ret ((F321j1 call round K ih0)))))))))))))))
def F321b3 (call round : Caller) (K : Nat) (ih0 : CF) : CF :=
  intK gLss (bin T3 .lss 3) g12 g11 (put p13 (condC g13 ((F321j2 call round K ih0)) (F321ret)))
def F321 (call round : Caller) (K : Nat) : FnT := funC 27 (boxK 112 g0 (put p2 (load1K g1 (put p7 (nilK g7 (put p8 (offK 6 g8 (put p9 (load1K g9 (put p10 (lenK g10 (put p11 (mv (constE (.int .i64 (.ofNat 0))) p12 (loopC (F321b3 call round K) K))))))))))))))
theorem F321_eq (call round : Caller) (K : Nat) : funF T3 call round K 321 = F321 call round K := by kernel_rfl

/-! 322 (*revetment/queue.Queue[int]).All -/
def F322ret : CF := (ret1 g2)
def F322 (call round : Caller) (K : Nat) : FnT := funC 4 (boxK 141 g0 (put p1 (mv (constE .nilfunc) p2 (valK (makeFuncV 345 (fun tm => []) (fun tm => [g1 tm])) (put p3 (mv g3 p2 (F322ret)))))))
theorem F322_eq (call round : Caller) (K : Nat) : funF T3 call round K 322 = F322 call round K := by kernel_rfl

/-! 323 (*revetment/zone.Zone[revetment/frame.Sector]).failed -/
def F323ret : CF := (ret1 g2)
def F323j0 (call round : Caller) (K : Nat) : CF :=
  mv (constE (.int .i64 (.ofNat 0))) p2 (F323ret)
def F323 (call round : Caller) (K : Nat) : FnT := funC 11 (mv (constE (.int .i64 (.ofNat 0))) p2 (mv g0 p3 (nilK g3 (put p4 (offK 3 g4 (put p5 (load1K g5 (put p6 (intK gEql (bin T3 .eql 3) g6 (constE (.int .i64 (.ofNat 4))) (put p8 (mv g8 p7 (condC g7 (mv (constE (.int .i64 (.ofNat 32))) p2 (F323ret)) (intK gEql (bin T3 .eql 3) g6 (constE (.int .i64 (.ofNat 3))) (put p10 (mv g10 p9 (condC g9 (mv (constE (.int .i64 (.ofNat 30))) p2 (F323ret)) ((F323j0 call round K))))))))))))))))))
theorem F323_eq (call round : Caller) (K : Nat) : funF T3 call round K 323 = F323 call round K := by kernel_rfl

/-! 325 slices.Clone[[]revetment/entry.Block,revetment/entry.Block] -/
def F325ret : CF := (ret1 g2)
def F325j0 (call round : Caller) (K : Nat) : CF :=
  slowK (buildSliceM (List.replicate 32 (.int .u8 (.ofNat 0))) 64 32 0 (fun tm => [])) (put p5 (mv g0 p6 (slowK (appendM 64 32 g5 g6) (put p7 (mv g7 p2 (F325ret))))))
def F325 (call round : Caller) (K : Nat) : FnT := funC 8 (mv (constE .nilslice) p2 (mv g0 p3 (intK gEql (bin T3 .eql 35) g3 (constE .nilslice) (put p4 (condC g4 (mv (constE .nilslice) p2 (F325ret)) ((F325j0 call round K)))))))
theorem F325_eq (call round : Caller) (K : Nat) : funF T3 call round K 325 = F325 call round K := by kernel_rfl

/-! 327 slices.Values[[]revetment/plan.Event,revetment/plan.Event]$1 -/
def F327ret : CF := ret0
def F327j1 (call round : Caller) (K : Nat) (ih0 : CF) : CF :=
  intK gAdd (bin T3 .add 3) g7 (constE (.int .i64 (.ofNat 1))) (put p15 (mv g15 p7 (ih0)))
def F327j2 (call round : Caller) (K : Nat) (ih0 : CF) : CF :=
  ixSliK 68 g5 g7 (put p9 (loadNK 68 g9 (put p10 (allocK (List.replicate 4 (.int .i64 (.ofNat 0)) ++ List.replicate 64 (.int .u8 (.ofNat 0))) 46 (put p4 (storeK 68 g4 g10 (dropS (mv g0 p11 (loadNK 68 g4 (put p12 (callVK call round g11 (fun tm => [g12 tm]) (put p13 (notK g13 (put p14 (condC g14 (F327ret) ((F327j1 call round K ih0)))))))))))))))))
def F327b3 (call round : Caller) (K : Nat) (ih0 : CF) : CF :=
  intK gLss (bin T3 .lss 3) g7 g6 (put p8 (condC g8 ((F327j2 call round K ih0)) (F327ret)))
def F327 (call round : Caller) (K : Nat) : FnT := funC 16 (load1K g1 (put p5 (lenK g5 (put p6 (mv (constE (.int .i64 (.ofNat 0))) p7 (loopC (F327b3 call round K) K))))))
theorem F327_eq (call round : Caller) (K : Nat) : funF T3 call round K 327 = F327 call round K := by kernel_rfl

/-! 328 revetment/codec.within -/
def F328ret : CF := (ret1 g2)
def F328j0 (call round : Caller) (K : Nat) : CF :=
  pickK g5 g7 (constE (.bool false)) (put p8 (mv g8 p2 (F328ret)))
def F328j1 (call round : Caller) (K : Nat) : CF :=
  guardK (wantG o5 true) (intK gLeq (bin T3 .leq 3) g6 (constE (.int .i64 (.ofNat 7))) (put p7 ((F328j0 call round K)))) (put p7 ((F328j0 call round K)))
def F328 (call round : Caller) (K : Nat) : FnT := funC 9 (mv (constE (.bool false)) p2 (mv g0 p3 (intK gGeq (bin T3 .geq 3) g3 (constE (.int .i64 (.ofNat 1))) (put p4 (mv g4 p5 (guardK (wantG o5 true) (moveK g0 (put p6 ((F328j1 call round K)))) (put p6 ((F328j1 call round K)))))))))
theorem F328_eq (call round : Caller) (K : Nat) : funF T3 call round K 328 = F328 call round K := by kernel_rfl

/-! 329 (*revetment/codec.Reader).take -/
def F329ret : CF := (ret1 g4)
def F329j0 (call round : Caller) (K : Nat) : CF :=
  mv g0 p29 (nilK g29 (put p30 (offK 0 g30 (put p31 (load1K g31 (put p32 (mv g1 p33 (mv g1 p34 (valK (sliV 1 g32 (fun _ => none) (fun tm => some (g33 tm)) (fun tm => some (g34 tm))) (put p35 (mv g35 p5 (mv g0 p36 (mv g0 p37 (nilK g37 (put p38 (offK 0 g38 (put p39 (load1K g39 (put p40 (mv g1 p41 (valK (sliV 1 g40 (fun tm => some (g41 tm)) (fun _ => none) (fun _ => none)) (put p42 (nilK g36 (put p43 (offK 0 g43 (put p44 (storeK 1 g44 g42 (dropS (mv g5 p45 (mv g45 p4 (F329ret)))))))))))))))))))))))))))))))
def F329j1 (call round : Caller) (K : Nat) : CF :=
  pickK g14 (constE (.bool true)) g21 (put p22 (condC g22 (mv g0 p23 (mv g0 p24 (nilK g23 (put p25 (offK 0 g25 (put p26 (storeK 1 g26 (constE .nilslice) (dropS (nilK g24 (put p27 (offK 1 g27 (put p28 (storeK 1 g28 (constE (.bool true)) (dropS (mv (constE .nilslice) p4 (F329ret)))))))))))))))) ((F329j0 call round K))))
def F329j2 (call round : Caller) (K : Nat) : CF :=
  guardK (wantG o14 false) (intK gGtr (bin T3 .gtr 3) g15 g20 (put p21 ((F329j1 call round K)))) (put p21 ((F329j1 call round K)))
def F329j3 (call round : Caller) (K : Nat) : CF :=
  guardK (wantG o14 false) (lenK g19 (put p20 ((F329j2 call round K)))) (put p20 ((F329j2 call round K)))
def F329j4 (call round : Caller) (K : Nat) : CF :=
  guardK (wantG o14 false) (load1K g18 (put p19 ((F329j3 call round K)))) (put p19 ((F329j3 call round K)))
def F329j5 (call round : Caller) (K : Nat) : CF :=
  guardK (wantG o14 false) (offK 0 g17 (put p18 ((F329j4 call round K)))) (put p18 ((F329j4 call round K)))
def F329j6 (call round : Caller) (K : Nat) : CF :=
  guardK (wantG o14 false) (nilK g16 (put p17 ((F329j5 call round K)))) (put p17 ((F329j5 call round K)))
def F329j7 (call round : Caller) (K : Nat) : CF :=
  guardK (wantG o14 false) (moveK g0 (put p16 ((F329j6 call round K)))) (put p16 ((F329j6 call round K)))
def F329j8 (call round : Caller) (K : Nat) : CF :=
  pickK g10 (constE (.bool true)) g12 (put p13 (mv g13 p14 (guardK (wantG o14 false) (moveK g1 (put p15 ((F329j7 call round K)))) (put p15 ((F329j7 call round K))))))
def F329j9 (call round : Caller) (K : Nat) : CF :=
  guardK (wantG o10 false) (intK gLss (bin T3 .lss 3) g11 (constE (.int .i64 (.ofNat 0))) (put p12 ((F329j8 call round K)))) (put p12 ((F329j8 call round K)))
def F329 (call round : Caller) (K : Nat) : FnT := funC 46 (mv (constE .nilslice) p4 (mv g0 p6 (nilK g6 (put p7 (offK 1 g7 (put p8 (load1K g8 (put p9 (mv g9 p10 (guardK (wantG o10 false) (moveK g1 (put p11 ((F329j9 call round K)))) (put p11 ((F329j9 call round K)))))))))))))
theorem F329_eq (call round : Caller) (K : Nat) : funF T3 call round K 329 = F329 call round K := by kernel_rfl

/-! 330 revetment/snap.body -/
def F330ret : CF := (retC T3 [.cell 2 233])
def F330 (call round : Caller) (K : Nat) : FnT := funC 15 (allocK (List.replicate 44 (.int .u8 (.ofNat 0))) 233 (put p2 (allocK (List.replicate 44 (.int .u8 (.ofNat 0))) 233 (put p3 (mv g0 p7 (callK call 300 (fun tm => [g7 tm]) (put p8 (mv g8 p6 (extrK 0 g6 (put p9 (extrK 1 g6 (put p10 (mv g9 p4 (mv g10 p5 (valK (sliArrV 44 1 g3 (fun _ => none) (fun _ => none) (fun _ => none)) (put p11 (mv g4 p12 (slowK (builtinM T3 .copy #[60, 60] (fun tm => [g11 tm, g12 tm])) (put p13 (loadNK 44 g3 (put p14 (storeK 44 g2 g14 (dropS (F330ret))))))))))))))))))))))))
theorem F330_eq (call round : Caller) (K : Nat) : funF T3 call round K 330 = F330 call round K := by kernel_rfl

/-! 331 revetment/snap.put -/
def F331ret : CF := ret0
def F331 (call round : Caller) (K : Nat) : FnT := funC 28 (boxK 135 g1 (put p3 (mv g0 p4 (offK 0 g3 (put p5 (load1K g5 (put p6 (callK call 298 (fun tm => [g4 tm, (constE (.int .i64 (.ofNat 1))) tm, g6 tm]) (put p7 (mv g0 p8 (offK 1 g3 (put p9 (load1K g9 (put p10 (callK call 298 (fun tm => [g8 tm, (constE (.int .i64 (.ofNat 2))) tm, g10 tm]) (put p11 (mv g0 p12 (offK 2 g3 (put p13 (load1K g13 (put p14 (callK call 298 (fun tm => [g12 tm, (constE (.int .i64 (.ofNat 2))) tm, g14 tm]) (put p15 (mv g0 p16 (offK 3 g3 (put p17 (load1K g17 (put p18 (callK call 298 (fun tm => [g16 tm, (constE (.int .i64 (.ofNat 1))) tm, g18 tm]) (put p19 (mv g0 p20 (offK 4 g3 (put p21 (load1K g21 (put p22 (callK call 298 (fun tm => [g20 tm, (constE (.int .i64 (.ofNat 6))) tm, g22 tm]) (put p23 (mv g0 p24 (offK 5 g3 (put p25 (load1K g25 (put p26 (callK call 298 (fun tm => [g24 tm, (constE (.int .i64 (.ofNat 4))) tm, g26 tm]) (put p27 (F331ret)))))))))))))))))))))))))))))))))))))))))))))
theorem F331_eq (call round : Caller) (K : Nat) : funF T3 call round K 331 = F331 call round K := by kernel_rfl

/-! 334 revetment/codec.Width -/
def F334ret : CF := (ret1 g2)
def F334j0 (call round : Caller) (K : Nat) : CF :=
  pickK g13 (constE (.bool true)) g15 (put p16 (condC g16 (mv (constE (.int .i64 (.ofNat 8))) p2 (F334ret)) (mv g3 p17 (mv g17 p2 (F334ret)))))
def F334j1 (call round : Caller) (K : Nat) : CF :=
  guardK (wantG o13 false) (intK gGtr (bin T3 .gtr 3) g14 (constE (.int .i64 (.ofNat 7))) (put p15 ((F334j0 call round K)))) (put p15 ((F334j0 call round K)))
def F334j2 (call round : Caller) (K : Nat) : CF :=
  mv g0 p11 (intK gLss (bin T3 .lss 3) g11 (constE (.int .i64 (.ofNat 0))) (put p12 (mv g12 p13 (guardK (wantG o13 false) (moveK g3 (put p14 ((F334j1 call round K)))) (put p14 ((F334j1 call round K)))))))
def F334j4 (call round : Caller) (K : Nat) (ih3 : CF) : CF :=
  mv g0 p7 (binK (bin T3 .shr 3) g7 (constE (.int .u64 (.ofNat 8))) (put p8 (mv g8 p0 (mv g3 p9 (intK gAdd (bin T3 .add 3) g9 (constE (.int .i64 (.ofNat 1))) (put p10 (mv g10 p3 (ih3))))))))
def F334b5 (call round : Caller) (K : Nat) (ih3 : CF) : CF :=
  mv g0 p4 (binK (bin T3 .shr 3) g4 (constE (.int .u64 (.ofNat 8))) (put p5 (intK gGtr (bin T3 .gtr 3) g5 (constE (.int .i64 (.ofNat 0))) (put p6 (condC g6 ((F334j4 call round K ih3)) ((F334j2 call round K)))))))
def F334 (call round : Caller) (K : Nat) : FnT := funC 18 (mv (constE (.int .i64 (.ofNat 0))) p2 (mv (constE (.int .i64 (.ofNat 1))) p3 (loopC (F334b5 call round K) K)))
theorem F334_eq (call round : Caller) (K : Nat) : funF T3 call round K 334 = F334 call round K := by kernel_rfl

/-! 335 (revetment/crc.Table).Seal -/
def F335ret : CF := (ret1 g4)
def F335 (call round : Caller) (K : Nat) : FnT := funC 25 (boxK 125 g0 (put p2 (mv (constE .nilslice) p4 (loadNK 256 g2 (put p6 (mv g1 p7 (callK call 195 (fun tm => [g6 tm, g7 tm]) (put p8 (mv g8 p5 (slowK (buildSliceM [(.int .u8 (.ofNat 0))] 5 1 0 (fun tm => [])) (put p9 (mv g1 p10 (slowK (appendM 5 1 g9 g10) (put p11 (mv g5 p12 (convK .u8 g12 (put p13 (mv g5 p14 (binK (bin T3 .shr 123) g14 (constE (.int .u64 (.ofNat 8))) (put p15 (convK .u8 g15 (put p16 (mv g5 p17 (binK (bin T3 .shr 123) g17 (constE (.int .u64 (.ofNat 16))) (put p18 (convK .u8 g18 (put p19 (mv g5 p20 (binK (bin T3 .shr 123) g20 (constE (.int .u64 (.ofNat 24))) (put p21 (convK .u8 g21 (put p22 (slowK (buildSliceM [(.int .u8 (.ofNat 0))] 5 1 4 (fun tm => [(0, g13 tm), (1, g16 tm), (2, g19 tm), (3, g22 tm)])) (put p23 (slowK (appendM 5 1 g11 g23) (put p24 (mv g24 p4 (F335ret))))))))))))))))))))))))))))))))))))))
theorem F335_eq (call round : Caller) (K : Nat) : funF T3 call round K 335 = F335 call round K := by kernel_rfl

/-! 343 (*revetment/zdev.Device).opened -/
def F343ret : CF := (ret1 g2)
def F343j1 (call round : Caller) (K : Nat) (ih0 : CF) : CF :=
  intK gAdd (bin T3 .add 3) g11 (constE (.int .i64 (.ofNat 1))) (put p20 (mv g20 p11 (ih0)))
def F343j2 (call round : Caller) (K : Nat) (ih0 : CF) : CF :=
  ixSliK 1 g9 g11 (put p13 (load1K g13 (put p14 (mv g14 p5 (mv g5 p15 (callK call 189 (fun tm => [g15 tm]) (put p16 (intK gEql (bin T3 .eql 3) g16 (constE (.int .i64 (.ofNat 1))) (put p17 (condC g17 (mv g3 p18 (intK gAdd (bin T3 .add 3) g18 (constE (.int .i64 (.ofNat 1))) (put p19 (mv g19 p3 ((F343j1 call round K ih0)))))) ((F343j1 call round K ih0))))))))))))
def F343b3 (call round : Caller) (K : Nat) (ih0 : CF) : CF :=
  intK gLss (bin T3 .lss 3) g11 g10 (put p12 (condC g12 ((F343j2 call round K ih0)) (mv g3 p21 (mv g21 p2 (F343ret)))))
def F343 (call round : Caller) (K : Nat) : FnT := funC 22 (mv (constE (.int .i64 (.ofNat 0))) p2 (mv (constE (.int .i64 (.ofNat 0))) p3 (mv g0 p6 (nilK g6 (put p7 (offK 0 g7 (put p8 (load1K g8 (put p9 (lenK g9 (put p10 (mv (constE (.int .i64 (.ofNat 0))) p11 (loopC (F343b3 call round K) K)))))))))))))
theorem F343_eq (call round : Caller) (K : Nat) : funF T3 call round K 343 = F343 call round K := by kernel_rfl

/-! 344 (*revetment/zone.Zone[revetment/frame.Sector]).Append -/
def F344ret : CF := (ret2 g4 g5)
def F344j0 (call round : Caller) (K : Nat) : CF :=
  mv g0 p43 (nilK g43 (put p44 (offK 0 g44 (put p45 (load1K g45 (put p46 (lenK g46 (put p47 (intK gSub (bin T3 .sub 3) g47 (constE (.int .i64 (.ofNat 1))) (put p48 (mv g48 p4 (mv (constE (.int .i64 (.ofNat 0))) p5 (F344ret)))))))))))))
def F344j1 (call round : Caller) (K : Nat) : CF :=
  drawC (fun tm h => adraw T3 call round 49 (regOps T3 344 6) tm h) (mv g0 p27 (nilK g27 (put p28 (offK 3 g28 (put p29 (storeK 1 g29 (constE (.int .i64 (.ofNat 1))) (dropS (drawC (fun tm h => adraw T3 call round 49 (regOps T3 344 8) tm h) (condC g39 (mv g0 p40 (nilK g40 (put p41 (offK 3 g41 (put p42 (storeK 1 g42 (constE (.int .i64 (.ofNat 2))) (dropS ((F344j0 call round K))))))))) ((F344j0 call round K)))))))))))
def F344j2 (call round : Caller) (K : Nat) : CF :=
  mv g0 p12 (nilK g12 (put p13 (offK 3 g13 (put p14 (load1K g14 (put p15 (intK gEql (bin T3 .eql 3) g15 (constE (.int .i64 (.ofNat 2))) (put p16 (condC g16 (mv (constE (.int .i64 (.ofNat 0))) p4 (mv (constE (.int .i64 (.ofNat 17))) p5 (F344ret))) ((F344j1 call round K)))))))))))
def F344 (call round : Caller) (K : Nat) : FnT := funC 49 (boxK 44 g1 (put p3 (mv (constE (.int .i64 (.ofNat 0))) p4 (mv (constE (.int .i64 (.ofNat 0))) p5 (mv g0 p7 (callK call 323 (fun tm => [g7 tm]) (put p8 (mv g8 p6 (mv g6 p9 (intK gNeq (bin T3 .neq 36) g9 (constE (.int .i64 (.ofNat 0))) (put p10 (condC g10 (mv g6 p11 (mv (constE (.int .i64 (.ofNat 0))) p4 (mv g11 p5 (F344ret)))) ((F344j2 call round K))))))))))))))
theorem F344_eq (call round : Caller) (K : Nat) : funF T3 call round K 344 = F344 call round K := by kernel_rfl

/-! 345 (*revetment/queue.Queue[int]).All$1 -/
def F345ret : CF := ret0
def F345j1 (call round : Caller) (K : Nat) (ih0 : CF) : CF :=
  intK gAdd (bin T3 .add 3) g8 (constE (.int .i64 (.ofNat 1))) (put p18 (mv g18 p8 (ih0)))
def F345j2 (call round : Caller) (K : Nat) (ih0 : CF) : CF :=
  mv g8 p10 (ixSliK 1 g6 g8 (put p11 (load1K g11 (put p12 (mv g10 p3 (mv g12 p4 (mv g0 p13 (mv g3 p14 (mv g4 p15 (callVK call round g13 (fun tm => [g14 tm, g15 tm]) (put p16 (notK g16 (put p17 (condC g17 (F345ret) ((F345j1 call round K ih0))))))))))))))))
def F345b3 (call round : Caller) (K : Nat) (ih0 : CF) : CF :=
  intK gLss (bin T3 .lss 3) g8 g7 (put p9 (condC g9 ((F345j2 call round K ih0)) (F345ret)))
def F345 (call round : Caller) (K : Nat) : FnT := funC 19 (load1K g1 (put p5 (callK call 346 (fun tm => [g5 tm]) (put p6 (lenK g6 (put p7 (mv (constE (.int .i64 (.ofNat 0))) p8 (loopC (F345b3 call round K) K))))))))
theorem F345_eq (call round : Caller) (K : Nat) : funF T3 call round K 345 = F345 call round K := by kernel_rfl

/-! 346 (*revetment/queue.Queue[int]).list -/
def F346ret : CF := (ret1 g2)
def F346j1 (call round : Caller) (K : Nat) (ih0 : CF) : CF :=
  intK gAdd (bin T3 .add 3) g26 (constE (.int .i64 (.ofNat 1))) (put p33 (mv g33 p26 (ih0)))
def F346j2 (call round : Caller) (K : Nat) (ih0 : CF) : CF :=
  ixSliK 1 g24 g26 (put p28 (load1K g28 (put p29 (mv g29 p7 (mv g0 p30 (mv g7 p31 (callK call 223 (fun tm => [g30 tm, g31 tm]) (put p32 ((F346j1 call round K ih0))))))))))
def F346b3 (call round : Caller) (K : Nat) (ih0 : CF) : CF :=
  intK gLss (bin T3 .lss 3) g26 g25 (put p27 (condC g27 ((F346j2 call round K ih0)) (mv g3 p34 (mv g34 p2 (F346ret)))))
def F346j4 (call round : Caller) (K : Nat) : CF :=
  mv g3 p24 (lenK g24 (put p25 (mv (constE (.int .i64 (.ofNat 0))) p26 (loopC (F346b3 call round K) K))))
def F346j6 (call round : Caller) (K : Nat) (ih5 : CF) : CF :=
  intK gAdd (bin T3 .add 3) g10 (constE (.int .i64 (.ofNat 1))) (put p23 (mv g23 p10 (ih5)))
def F346j7 (call round : Caller) (K : Nat) (ih5 : CF) : CF :=
  mv g0 p13 (callK call 141 (fun tm => [g13 tm]) (put p14 (mv g14 p12 (extrK 0 g12 (put p15 (extrK 1 g12 (put p16 (mv g15 p4 (mv g16 p5 (mv g5 p17 (intK gEql (bin T3 .eql 36) g17 (constE (.int .i64 (.ofNat 0))) (put p18 (condC g18 (mv g3 p19 (mv g4 p20 (slowK (buildSliceM [(.int .i64 (.ofNat 0))] 3 1 1 (fun tm => [(0, g20 tm)])) (put p21 (slowK (appendM 3 1 g19 g21) (put p22 (mv g22 p3 ((F346j6 call round K ih5))))))))) ((F346j6 call round K ih5)))))))))))))))
def F346b8 (call round : Caller) (K : Nat) (ih5 : CF) : CF :=
  intK gLss (bin T3 .lss 3) g10 g9 (put p11 (condC g11 ((F346j7 call round K ih5)) ((F346j4 call round K))))
def F346 (call round : Caller) (K : Nat) : FnT := funC 35 (mv (constE .nilslice) p2 (mv (constE .nilslice) p3 (mv g0 p8 (callK call 68 (fun tm => [g8 tm]) (put p9 (mv (constE (.int .i64 (.ofNat 0))) p10 (loopC (F346b8 call round K) K)))))))
theorem F346_eq (call round : Caller) (K : Nat) : funF T3 call round K 346 = F346 call round K := by kernel_rfl


end
end Go.Ev
