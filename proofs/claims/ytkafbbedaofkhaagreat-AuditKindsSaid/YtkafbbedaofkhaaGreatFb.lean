/- Functions as combinators; printed by Gen.lean. -/
import Derived.Test.YtkafbbedaofkhaaGreatFa
set_option linter.unusedVariables false
set_option linter.unusedSimpArgs false
set_option linter.unusedSectionVars false
namespace Go.Ev
open Go.Proofs
set_option maxRecDepth 100000
noncomputable section
/-! 4 revetment/revetmentlaw26.AuditKinds -/
def F4ret : CF := (retC T3 [.cell 6 4])
def F4j0 (call round : Caller) (K : Nat) : CF :=
  pickK g91 g95 (constE (.bool false)) (put p96 (storeK 1 g6 g96 (dropS (F4ret))))
def F4j1 (call round : Caller) (K : Nat) : CF :=
  guardK (wantG o91 true) (intK gEql (bin T3 .eql 3) g93 g94 (put p95 ((F4j0 call round K)))) (put p95 ((F4j0 call round K)))
def F4j2 (call round : Caller) (K : Nat) : CF :=
  guardK (wantG o91 true) (moveK g13 (put p94 ((F4j1 call round K)))) (put p94 ((F4j1 call round K)))
def F4j3 (call round : Caller) (K : Nat) : CF :=
  guardK (wantG o91 true) (callK call 14 (fun tm => [g92 tm]) (put p93 ((F4j2 call round K)))) (put p93 ((F4j2 call round K)))
def F4j4 (call round : Caller) (K : Nat) : CF :=
  pickK g86 (constE (.bool true)) g89 (put p90 (mv g90 p91 (guardK (wantG o91 true) (moveK g0 (put p92 ((F4j3 call round K)))) (put p92 ((F4j3 call round K))))))
def F4j5 (call round : Caller) (K : Nat) : CF :=
  guardK (wantG o86 false) (intK gEql (bin T3 .eql 3) g87 g88 (put p89 ((F4j4 call round K)))) (put p89 ((F4j4 call round K)))
def F4j6 (call round : Caller) (K : Nat) : CF :=
  guardK (wantG o86 false) (load1K g5 (put p88 ((F4j5 call round K)))) (put p88 ((F4j5 call round K)))
def F4j7 (call round : Caller) (K : Nat) : CF :=
  load1K g11 (put p82 (load1K g7 (put p83 (lenK g83 (put p84 (intK gEql (bin T3 .eql 3) g82 g84 (put p85 (mv g85 p86 (guardK (wantG o86 false) (load1K g11 (put p87 ((F4j6 call round K)))) (put p87 ((F4j6 call round K))))))))))))
def F4j9 (call round : Caller) (K : Nat) (ih8 : CF) : CF :=
  intK gAdd (bin T3 .add 3) g73 (constE (.int .i64 (.ofNat 1))) (put p81 (mv g81 p73 (ih8)))
def F4j10 (call round : Caller) (K : Nat) (ih8 : CF) : CF :=
  ixValK 5 1 false 1 g72 g73 (put p75 (mv g75 p15 (mv g15 p76 (ixArrK 6 1 g8 g76 (put p77 (load1K g77 (put p78 (intK gGtr (bin T3 .gtr 3) g78 (constE (.int .i64 (.ofNat 0))) (put p79 (condC g79 (mv g15 p80 (mv g80 p13 ((F4j9 call round K ih8)))) ((F4j9 call round K ih8))))))))))))
def F4b11 (call round : Caller) (K : Nat) (ih8 : CF) : CF :=
  intK gLss (bin T3 .lss 3) g73 (constE (.int .i64 (.ofNat 5))) (put p74 (condC g74 ((F4j10 call round K ih8)) ((F4j7 call round K))))
def F4j12 (call round : Caller) (K : Nat) : CF :=
  mv (constE (.int .i64 (.ofNat 0))) p13 (valK (buildV (evenP 1) [(.int .i64 (.ofNat 0)), (.int .i64 (.ofNat 0)), (.int .i64 (.ofNat 0)), (.int .i64 (.ofNat 0)), (.int .i64 (.ofNat 0))] (fun tm => [(0, (constE (.int .i64 (.ofNat 4))) tm), (1, (constE (.int .i64 (.ofNat 5))) tm), (2, (constE (.int .i64 (.ofNat 1))) tm), (3, (constE (.int .i64 (.ofNat 3))) tm), (4, (constE (.int .i64 (.ofNat 2))) tm)])) (put p72 (mv (constE (.int .i64 (.ofNat 0))) p73 (loopC (F4b11 call round K) K))))
def F4j13 (call round : Caller) (K : Nat) : CF :=
  allocK [(.int .i64 (.ofNat 0))] 3 (put p11 (storeK 1 g11 (constE (.int .i64 (.ofNat 0))) (dropS (mv g0 p51 (mv g1 p52 (callK call 13 (fun tm => [g51 tm, g52 tm]) (put p53 (rangeS T3 call 4 97 none 0 (fun _ => badC) [(2, (F4j12 call round K))] F4ret ((F4j12 call round K))))))))))
def F4j15 (call round : Caller) (K : Nat) (ih14 : CF) : CF :=
  intK gAdd (bin T3 .add 3) g24 (constE (.int .i64 (.ofNat 1))) (put p50 (mv g50 p24 (ih14)))
def F4j16 (call round : Caller) (K : Nat) (ih14 : CF) : CF :=
  pickK g39 g42 (constE (.bool false)) (put p43 (condC g43 (offK 0 g10 (put p44 (load1K g44 (put p45 (ixArrK 6 1 g8 g45 (put p46 (load1K g46 (put p47 (intK gAdd (bin T3 .add 3) g47 (constE (.int .i64 (.ofNat 1))) (put p48 (ixArrK 6 1 g8 g45 (put p49 (storeK 1 g49 g48 (dropS ((F4j15 call round K ih14)))))))))))))))) ((F4j15 call round K ih14))))
def F4j17 (call round : Caller) (K : Nat) (ih14 : CF) : CF :=
  guardK (wantG o39 true) (intK gLeq (bin T3 .leq 3) g41 (constE (.int .i64 (.ofNat 5))) (put p42 ((F4j16 call round K ih14)))) (put p42 ((F4j16 call round K ih14)))
def F4j18 (call round : Caller) (K : Nat) (ih14 : CF) : CF :=
  guardK (wantG o39 true) (load1K g40 (put p41 ((F4j17 call round K ih14)))) (put p41 ((F4j17 call round K ih14)))
def F4j19 (call round : Caller) (K : Nat) (ih14 : CF) : CF :=
  offK 0 g10 (put p36 (load1K g36 (put p37 (intK gGeq (bin T3 .geq 3) g37 (constE (.int .i64 (.ofNat 1))) (put p38 (mv g38 p39 (guardK (wantG o39 true) (offK 0 g10 (put p40 ((F4j18 call round K ih14)))) (put p40 ((F4j18 call round K ih14))))))))))
def F4j20 (call round : Caller) (K : Nat) (ih14 : CF) : CF :=
  ixSliK 3 g22 g24 (put p26 (loadNK 3 g26 (put p27 (allocK [(.int .i64 (.ofNat 0)), (.int .i64 (.ofNat 0)), (.int .i64 (.ofNat 0))] 51 (put p10 (storeK 3 g10 g27 (dropS (offK 0 g10 (put p28 (load1K g28 (put p29 (mv g1 p30 (intK gEql (bin T3 .eql 3) g29 g30 (put p31 (condC g31 (load1K g7 (put p32 (loadNK 3 g10 (put p33 (slowK (buildSliceM [(.int .i64 (.ofNat 0)), (.int .i64 (.ofNat 0)), (.int .i64 (.ofNat 0))] 51 3 1 (fun tm => [(0, g33 tm)])) (put p34 (slowK (appendM 51 3 g32 g34) (put p35 (storeK 1 g7 g35 (dropS ((F4j19 call round K ih14)))))))))))) ((F4j19 call round K ih14)))))))))))))))))
def F4b21 (call round : Caller) (K : Nat) (ih14 : CF) : CF :=
  intK gLss (bin T3 .lss 3) g24 g23 (put p25 (condC g25 ((F4j20 call round K ih14)) ((F4j13 call round K))))
def F4j22 (call round : Caller) (K : Nat) : CF :=
  allocK [.nilslice] 48 (put p7 (valK (buildV (evenP 1) [(.int .i64 (.ofNat 0)), (.int .i64 (.ofNat 0)), (.int .i64 (.ofNat 0)), (.int .i64 (.ofNat 0)), (.int .i64 (.ofNat 0)), (.int .i64 (.ofNat 0))] (fun tm => [])) (put p21 (allocK [(.int .i64 (.ofNat 0)), (.int .i64 (.ofNat 0)), (.int .i64 (.ofNat 0)), (.int .i64 (.ofNat 0)), (.int .i64 (.ofNat 0)), (.int .i64 (.ofNat 0))] 49 (put p8 (storeK 6 g8 g21 (dropS (mv g0 p22 (lenK g22 (put p23 (mv (constE (.int .i64 (.ofNat 0))) p24 (loopC (F4b21 call round K) K))))))))))))
def F4j23 (call round : Caller) (K : Nat) : CF :=
  mv g0 p18 (lenK g18 (put p19 (intK gGtr (bin T3 .gtr 3) g19 (constE (.int .i64 (.ofNat 100))) (put p20 (condC g20 (storeK 1 g6 (constE (.bool true)) (dropS (F4ret))) ((F4j22 call round K)))))))
def F4 (call round : Caller) (K : Nat) : FnT := funC 97 (boxK 3 g2 (put p5 (allocK [(.bool false)] 4 (put p6 (callK call 12 (fun tm => []) (put p16 (notK g16 (put p17 (condC g17 (storeK 1 g6 (constE (.bool false)) (dropS (F4ret))) ((F4j23 call round K)))))))))))
theorem F4_eq (call round : Caller) (K : Nat) : funF T3 call round K 4 = F4 call round K := by kernel_rfl
def F4d18j0 (call round : Caller) (k : CF) : CF :=
  pickK g59 (constE (.bool true)) g65 (put p66 (k))
def F4d18j1 (call round : Caller) (k : CF) : CF :=
  guardK (wantG o59 false) (intK gNeq (bin T3 .neq 51) g63 g64 (put p65 ((F4d18j0 call round k)))) (put p65 ((F4d18j0 call round k)))
def F4d18j2 (call round : Caller) (k : CF) : CF :=
  guardK (wantG o59 false) (loadNK 3 g12 (put p64 ((F4d18j1 call round k)))) (put p64 ((F4d18j1 call round k)))
def F4d18j3 (call round : Caller) (k : CF) : CF :=
  guardK (wantG o59 false) (loadNK 3 g62 (put p63 ((F4d18j2 call round k)))) (put p63 ((F4d18j2 call round k)))
def F4d18j4 (call round : Caller) (k : CF) : CF :=
  guardK (wantG o59 false) (ixSliK 3 g60 g61 (put p62 ((F4d18j3 call round k)))) (put p62 ((F4d18j3 call round k)))
def F4d18j5 (call round : Caller) (k : CF) : CF :=
  guardK (wantG o59 false) (load1K g11 (put p61 ((F4d18j4 call round k)))) (put p61 ((F4d18j4 call round k)))
def F4d18 (call round : Caller) (k : CF) : CF :=
  load1K g11 (put p55 (load1K g7 (put p56 (lenK g56 (put p57 (intK gGeq (bin T3 .geq 3) g55 g57 (put p58 (mv g58 p59 (guardK (wantG o59 false) (load1K g7 (put p60 ((F4d18j5 call round k)))) (put p60 ((F4d18j5 call round k))))))))))))
theorem F4d18_eq (call round : Caller) (k : CF) : opsK T3 call round 97 (regOps T3 4 18) (regOps T3 4 18) k = F4d18 call round k := by kernel_rfl
theorem F4d18_quiet : quietReg T3 (regOps T3 4 18) = true := by kernel_rfl
def F4r0j0 (call round : Caller) (K l : Nat) : CF :=
  load1K g11 (put p67 (intK gAdd (bin T3 .add 3) g67 (constE (.int .i64 (.ofNat 1))) (put p68 (storeK 1 g11 g68 (dropS (load1K g11 (put p69 (load1K g5 (put p70 (intK gEql (bin T3 .eql 3) g69 g70 (put p71 (condC g71 (((fun id => roundEnd l false .done (some (.exit id))) 2)) ((roundEnd l true .ready none))))))))))))))
def F4r0body (call round : Caller) (K l : Nat) : CF :=
  drawC (fun tm h => adraw T3 call round 97 (regOps T3 4 18) tm h) (condC g66 (storeK 1 g6 (constE (.bool false)) (dropS ((roundEnd l false .done (some .ret))))) ((F4r0j0 call round K l)))
def F4r0 (call round : Caller) (K l : Nat) : CF :=
  allocK [(.int .i64 (.ofNat 0)), (.int .i64 (.ofNat 0)), (.int .i64 (.ofNat 0))] 51 (put p12 (storeK 3 g12 g54 (dropS ((beginC l (F4r0body call round K l))))))
theorem F4r0_eq (call round : Caller) (K l : Nat) : codeK T3 call round K 4 97 (some l) (fun id => roundEnd l false .done (some (.exit id))) (roundEnd l false .done (some .ret)) (rangeAt T3 4 0).2.2.1 [] (beginC l (codeK T3 call round K 4 97 (some l) (fun id => roundEnd l false .done (some (.exit id))) (roundEnd l false .done (some .ret)) (rangeAt T3 4 0).2.2.2 [] (roundEnd l true .ready none))) = F4r0 call round K l := by kernel_rfl

/-! 7 (*revetment/plan.Drive).Device -/
def F7ret : CF := (ret1 g2)
def F7 (call round : Caller) (K : Nat) : FnT := funC 7 (mv (constE .nilptr) p2 (mv g0 p3 (nilK g3 (put p4 (offK 0 g4 (put p5 (load1K g5 (put p6 (mv g6 p2 (F7ret))))))))))
theorem F7_eq (call round : Caller) (K : Nat) : funF T3 call round K 7 = F7 call round K := by kernel_rfl

/-! 8 (*revetment/zdev.Device).Count -/
def F8ret : CF := (ret1 g2)
def F8 (call round : Caller) (K : Nat) : FnT := funC 7 (mv (constE (.int .i64 (.ofNat 0))) p2 (mv g0 p3 (nilK g3 (put p4 (offK 3 g4 (put p5 (load1K g5 (put p6 (mv g6 p2 (F8ret))))))))))
theorem F8_eq (call round : Caller) (K : Nat) : funF T3 call round K 8 = F8 call round K := by kernel_rfl

/-! 12 revetment/revetmentlaw26.anchor -/
def F12ret : CF := (ret1 g0)
def F12j0 (call round : Caller) (K : Nat) : CF :=
  pickK g29 g33 (constE (.bool false)) (put p34 (mv g34 p0 (F12ret)))
def F12j1 (call round : Caller) (K : Nat) : CF :=
  guardK (wantG o29 true) (intK gEql (bin T3 .eql 3) g32 (constE (.int .i64 (.ofNat 4))) (put p33 ((F12j0 call round K)))) (put p33 ((F12j0 call round K)))
def F12j2 (call round : Caller) (K : Nat) : CF :=
  guardK (wantG o29 true) (callK call 14 (fun tm => [g31 tm]) (put p32 ((F12j1 call round K)))) (put p32 ((F12j1 call round K)))
def F12j3 (call round : Caller) (K : Nat) : CF :=
  guardK (wantG o29 true) (slowK (buildSliceM [(.int .i64 (.ofNat 0)), (.int .i64 (.ofNat 0)), (.int .i64 (.ofNat 0))] 51 3 1 (fun tm => [(0, g30 tm)])) (put p31 ((F12j2 call round K)))) (put p31 ((F12j2 call round K)))
def F12j4 (call round : Caller) (K : Nat) : CF :=
  pickK g24 g27 (constE (.bool false)) (put p28 (mv g28 p29 (guardK (wantG o29 true) (valK (buildV (nthPR [(0, 1), (1, 1), (2, 1)]) [(.int .i64 (.ofNat 0)), (.int .i64 (.ofNat 0)), (.int .i64 (.ofNat 0))] (fun tm => [(0, (constE (.int .i64 (.ofNat 4))) tm)])) (put p30 ((F12j3 call round K)))) (put p30 ((F12j3 call round K))))))
def F12j5 (call round : Caller) (K : Nat) : CF :=
  guardK (wantG o24 true) (intK gEql (bin T3 .eql 3) g26 (constE (.int .i64 (.ofNat 0))) (put p27 ((F12j4 call round K)))) (put p27 ((F12j4 call round K)))
def F12j6 (call round : Caller) (K : Nat) : CF :=
  guardK (wantG o24 true) (callK call 14 (fun tm => [g25 tm]) (put p26 ((F12j5 call round K)))) (put p26 ((F12j5 call round K)))
def F12j7 (call round : Caller) (K : Nat) : CF :=
  pickK g19 g22 (constE (.bool false)) (put p23 (mv g23 p24 (guardK (wantG o24 true) (moveK g2 (put p25 ((F12j6 call round K)))) (put p25 ((F12j6 call round K))))))
def F12j8 (call round : Caller) (K : Nat) : CF :=
  guardK (wantG o19 true) (intK gEql (bin T3 .eql 3) g21 (constE (.int .i64 (.ofNat 0))) (put p22 ((F12j7 call round K)))) (put p22 ((F12j7 call round K)))
def F12j9 (call round : Caller) (K : Nat) : CF :=
  guardK (wantG o19 true) (lenK g20 (put p21 ((F12j8 call round K)))) (put p21 ((F12j8 call round K)))
def F12j10 (call round : Caller) (K : Nat) : CF :=
  mv g1 p11 (callK call 47 (fun tm => [g11 tm]) (put p12 (callK call 48 (fun tm => [g12 tm]) (put p13 (callK call 46 (fun tm => [g13 tm]) (put p14 (mv g14 p10 (extrK 0 g10 (put p15 (extrK 1 g10 (put p16 (mv g15 p2 (mv g16 p3 (mv g3 p17 (intK gEql (bin T3 .eql 36) g17 (constE (.int .i64 (.ofNat 0))) (put p18 (mv g18 p19 (guardK (wantG o19 true) (moveK g2 (put p20 ((F12j9 call round K)))) (put p20 ((F12j9 call round K)))))))))))))))))))))
def F12 (call round : Caller) (K : Nat) : FnT := funC 35 (mv (constE (.bool false)) p0 (valK (buildV (nthPR [(0, 1), (1, 1), (2, 1), (3, 1), (4, 1), (5, 1)]) [(.int .i64 (.ofNat 0)), (.int .i64 (.ofNat 0)), (.int .i64 (.ofNat 0)), (.int .i64 (.ofNat 0)), (.int .i64 (.ofNat 0)), (.int .i64 (.ofNat 0))] (fun tm => [(0, (constE (.int .i64 (.ofNat 3))) tm), (1, (constE (.int .i64 (.ofNat 8))) tm), (2, (constE (.int .i64 (.ofNat 8))) tm), (3, (constE (.int .i64 (.ofNat 4))) tm), (5, (constE (.int .i64 (.ofNat 4))) tm)])) (put p4 (valK (buildV (nthPR [(0, 1), (1, 1), (2, 1), (3, 1), (4, 68), (72, 1)]) (List.replicate 3 (.int .i64 (.ofNat 0)) ++ [(.str ⟨#[]⟩)] ++ List.replicate 4 (.int .i64 (.ofNat 0)) ++ List.replicate 64 (.int .u8 (.ofNat 0)) ++ [(.str ⟨#[]⟩)]) (fun tm => [(0, (constE (.int .i64 (.ofNat 1))) tm)])) (put p5 (slowK (buildSliceM (List.replicate 3 (.int .i64 (.ofNat 0)) ++ [(.str ⟨#[]⟩)] ++ List.replicate 4 (.int .i64 (.ofNat 0)) ++ List.replicate 64 (.int .u8 (.ofNat 0)) ++ [(.str ⟨#[]⟩)]) 103 73 1 (fun tm => [(0, g5 tm)])) (put p6 (callK call 45 (fun tm => [g4 tm, g6 tm]) (put p7 (mv g7 p1 (mv g1 p8 (intK gEql (bin T3 .eql 100) g8 (constE .nilptr) (put p9 (condC g9 (mv (constE (.bool false)) p0 (F12ret)) ((F12j10 call round K))))))))))))))))
theorem F12_eq (call round : Caller) (K : Nat) : funF T3 call round K 12 = F12 call round K := by kernel_rfl

/-! 13 revetment/audit.Of -/
def F13ret : CF := (ret1 g4)
def F13 (call round : Caller) (K : Nat) : FnT := funC 6 (boxK 48 g0 (put p2 (boxK 3 g1 (put p3 (mv (constE .nilfunc) p4 (valK (makeFuncV 49 (fun tm => []) (fun tm => [g2 tm, g3 tm])) (put p5 (mv g5 p4 (F13ret)))))))))
theorem F13_eq (call round : Caller) (K : Nat) : funF T3 call round K 13 = F13 call round K := by kernel_rfl

/-! 14 revetment/audit.Worst -/
def F14ret : CF := (retC T3 [.cell 2 3])
def F14j0 (call round : Caller) (K : Nat) : CF :=
  storeK 1 g2 (constE (.int .i64 (.ofNat 0))) (dropS (F14ret))
def F14j2 (call round : Caller) (K : Nat) (ih1 : CF) : CF :=
  intK gAdd (bin T3 .add 3) g6 (constE (.int .i64 (.ofNat 1))) (put p14 (mv g14 p6 (ih1)))
def F14j3 (call round : Caller) (K : Nat) (ih1 : CF) : CF :=
  ixValK 5 1 false 1 g5 g6 (put p8 (allocK [(.int .i64 (.ofNat 0))] 3 (put p4 (storeK 1 g4 g8 (dropS (mv g0 p9 (load1K g4 (put p10 (callK call 13 (fun tm => [g9 tm, g10 tm]) (put p11 (rangeS T3 call 14 15 none 0 (fun _ => badC) [(2, (F14j2 call round K ih1)), (1, (F14j2 call round K ih1)), (0, (F14j0 call round K))] F14ret ((F14j2 call round K ih1)))))))))))))
def F14b4 (call round : Caller) (K : Nat) (ih1 : CF) : CF :=
  intK gLss (bin T3 .lss 3) g6 (constE (.int .i64 (.ofNat 5))) (put p7 (condC g7 ((F14j3 call round K ih1)) ((F14j0 call round K))))
def F14 (call round : Caller) (K : Nat) : FnT := funC 15 (allocK [(.int .i64 (.ofNat 0))] 3 (put p2 (valK (buildV (evenP 1) [(.int .i64 (.ofNat 0)), (.int .i64 (.ofNat 0)), (.int .i64 (.ofNat 0)), (.int .i64 (.ofNat 0)), (.int .i64 (.ofNat 0))] (fun tm => [(0, (constE (.int .i64 (.ofNat 2))) tm), (1, (constE (.int .i64 (.ofNat 3))) tm), (2, (constE (.int .i64 (.ofNat 1))) tm), (3, (constE (.int .i64 (.ofNat 5))) tm), (4, (constE (.int .i64 (.ofNat 4))) tm)])) (put p5 (mv (constE (.int .i64 (.ofNat 0))) p6 (loopC (F14b4 call round K) K))))))
theorem F14_eq (call round : Caller) (K : Nat) : funF T3 call round K 14 = F14 call round K := by kernel_rfl
def F14r0body (call round : Caller) (K l : Nat) : CF :=
  load1K g4 (put p13 (storeK 1 g2 g13 (dropS ((roundEnd l false .done (some .ret))))))
def F14r0 (call round : Caller) (K l : Nat) : CF :=
  (beginC l (F14r0body call round K l))
theorem F14r0_eq (call round : Caller) (K l : Nat) : codeK T3 call round K 14 15 (some l) (fun id => roundEnd l false .done (some (.exit id))) (roundEnd l false .done (some .ret)) (rangeAt T3 14 0).2.2.1 [] (beginC l (codeK T3 call round K 14 15 (some l) (fun id => roundEnd l false .done (some (.exit id))) (roundEnd l false .done (some .ret)) (rangeAt T3 14 0).2.2.2 [] (roundEnd l true .ready none))) = F14r0 call round K l := by kernel_rfl

/-! 15 (*revetment/store.Store).Format -/
def F15ret : CF := (ret1 g2)
def F15 (call round : Caller) (K : Nat) : FnT := funC 5 (mv (constE (.int .i64 (.ofNat 0))) p2 (mv g0 p3 (callK call 50 (fun tm => [g3 tm, (constE (.func 51 [] [])) tm]) (put p4 (mv g4 p2 (F15ret))))))
theorem F15_eq (call round : Caller) (K : Nat) : funF T3 call round K 15 = F15 call round K := by kernel_rfl

/-! 23 revetment/plan.New -/
def F23ret : CF := (ret2 g6 g7)
def F23j0 (call round : Caller) (K : Nat) : CF :=
  mv g8 p20 (slowK makeMapM (put p21 (valK (buildV (nthPR [(0, 1), (1, 1), (2, 1), (3, 1)]) [.nilptr, .nilslice, .nilslice, .nilmap] (fun tm => [(0, g20 tm), (3, g21 tm)])) (put p22 (boxK 74 g22 (put p23 (mv g23 p6 (mv (constE (.int .i64 (.ofNat 0))) p7 (F23ret)))))))))
def F23 (call round : Caller) (K : Nat) : FnT := funC 24 (mv (constE .nilptr) p6 (mv (constE (.int .i64 (.ofNat 0))) p7 (mv g0 p11 (mv g1 p12 (mv g2 p13 (callK call 60 (fun tm => [g11 tm, g12 tm, g13 tm]) (put p14 (mv g14 p10 (extrK 0 g10 (put p15 (extrK 1 g10 (put p16 (mv g15 p8 (mv g16 p9 (mv g9 p17 (intK gNeq (bin T3 .neq 36) g17 (constE (.int .i64 (.ofNat 0))) (put p18 (condC g18 (mv g9 p19 (mv (constE .nilptr) p6 (mv g19 p7 (F23ret)))) ((F23j0 call round K))))))))))))))))))))
theorem F23_eq (call round : Caller) (K : Nat) : funF T3 call round K 23 = F23 call round K := by kernel_rfl

/-! 24 (revetment/geom.Geom).All -/
def F24ret : CF := (ret1 g2)
def F24 (call round : Caller) (K : Nat) : FnT := funC 8 (boxK 23 g0 (put p1 (mv (constE (.int .i64 (.ofNat 0))) p2 (offK 0 g1 (put p3 (load1K g3 (put p4 (offK 1 g1 (put p5 (load1K g5 (put p6 (intK gMul (bin T3 .mul 3) g4 g6 (put p7 (mv g7 p2 (F24ret)))))))))))))))
theorem F24_eq (call round : Caller) (K : Nat) : funF T3 call round K 24 = F24 call round K := by kernel_rfl

/-! 25 revetment/store.New -/
def F25ret : CF := (ret2 g4 g5)
def F25j0 (call round : Caller) (K : Nat) : CF :=
  mv g0 p18 (loadNK 6 g3 (put p19 (valK (buildV (nthPR [(0, 1), (1, 6), (7, 1)]) [.nilptr, (.int .i64 (.ofNat 0)), (.int .i64 (.ofNat 0)), (.int .i64 (.ofNat 0)), (.int .i64 (.ofNat 0)), (.int .i64 (.ofNat 0)), (.int .i64 (.ofNat 0)), .nilptr] (fun tm => [(0, g18 tm), (1, g19 tm)])) (put p20 (boxK 84 g20 (put p21 (mv g21 p4 (mv (constE (.int .i64 (.ofNat 0))) p5 (F25ret)))))))))
def F25 (call round : Caller) (K : Nat) : FnT := funC 22 (boxK 23 g1 (put p3 (mv (constE .nilptr) p4 (mv (constE (.int .i64 (.ofNat 0))) p5 (drawC (fun tm h => adraw T3 call round 22 (regOps T3 25 1) tm h) (mv g7 p15 (intK gNeq (bin T3 .neq 36) g15 (constE (.int .i64 (.ofNat 0))) (put p16 (condC g16 (mv g7 p17 (mv (constE .nilptr) p4 (mv g17 p5 (F25ret)))) ((F25j0 call round K)))))))))))
theorem F25_eq (call round : Caller) (K : Nat) : funF T3 call round K 25 = F25 call round K := by kernel_rfl

/-! 33 (*revetment/core.Core).Numbers -/
def F33ret : CF := (retC T3 [.cell 2 86])
def F33 (call round : Caller) (K : Nat) : FnT := funC 7 (allocK [(.int .i64 (.ofNat 0)), (.int .i64 (.ofNat 0)), (.int .i64 (.ofNat 0))] 86 (put p2 (mv g0 p3 (nilK g3 (put p4 (offK 3 g4 (put p5 (loadNK 3 g5 (put p6 (storeK 3 g2 g6 (dropS (F33ret))))))))))))
theorem F33_eq (call round : Caller) (K : Nat) : funF T3 call round K 33 = F33 call round K := by kernel_rfl

/-! 34 (*revetment/core.Core).Map -/
def F34ret : CF := (ret1 g2)
def F34 (call round : Caller) (K : Nat) : FnT := funC 7 (mv (constE .nilptr) p2 (mv g0 p3 (nilK g3 (put p4 (offK 2 g4 (put p5 (load1K g5 (put p6 (mv g6 p2 (F34ret))))))))))
theorem F34_eq (call round : Caller) (K : Nat) : funF T3 call round K 34 = F34 call round K := by kernel_rfl

/-! 36 (*revetment/core.Core).Mirror -/
def F36ret : CF := (ret1 g2)
def F36 (call round : Caller) (K : Nat) : FnT := funC 7 (mv (constE .nilptr) p2 (mv g0 p3 (nilK g3 (put p4 (offK 0 g4 (put p5 (load1K g5 (put p6 (mv g6 p2 (F36ret))))))))))
theorem F36_eq (call round : Caller) (K : Nat) : funF T3 call round K 36 = F36 call round K := by kernel_rfl

/-! 37 (*revetment/mirror.Mirror).Pool -/
def F37ret : CF := (ret1 g2)
def F37 (call round : Caller) (K : Nat) : FnT := funC 7 (mv (constE .nilptr) p2 (mv g0 p3 (nilK g3 (put p4 (offK 263 g4 (put p5 (load1K g5 (put p6 (mv g6 p2 (F37ret))))))))))
theorem F37_eq (call round : Caller) (K : Nat) : funF T3 call round K 37 = F37 call round K := by kernel_rfl

/-! 38 (*revetment/pool.Pool).Pairs -/
def F38ret : CF := (ret1 g2)
def F38j0 (call round : Caller) (K : Nat) : CF :=
  mv g3 p20 (binK (bin T3 .quo 3) g20 (constE (.int .i64 (.ofNat 2))) (put p21 (mv g3 p22 (mv g0 p23 (mv g0 p24 (callK call 70 (fun tm => [g24 tm, (constE (.int .i64 (.negSucc 0))) tm]) (put p25 (callK call 69 (fun tm => [g23 tm, g25 tm]) (put p26 (intK gSub (bin T3 .sub 3) g22 g26 (put p27 (slowK (builtinM T3 .min #[3, 3] (fun tm => [g21 tm, g27 tm])) (put p28 (mv g28 p2 (F38ret)))))))))))))))
def F38j2 (call round : Caller) (K : Nat) (ih1 : CF) : CF :=
  intK gAdd (bin T3 .add 3) g11 (constE (.int .i64 (.ofNat 1))) (put p19 (mv g19 p11 (ih1)))
def F38j3 (call round : Caller) (K : Nat) (ih1 : CF) : CF :=
  ixSliK 1 g9 g11 (put p13 (load1K g13 (put p14 (mv g14 p5 (mv g3 p15 (mv g5 p16 (callK call 68 (fun tm => [g16 tm]) (put p17 (intK gAdd (bin T3 .add 3) g15 g17 (put p18 (mv g18 p3 ((F38j2 call round K ih1)))))))))))))
def F38b4 (call round : Caller) (K : Nat) (ih1 : CF) : CF :=
  intK gLss (bin T3 .lss 3) g11 g10 (put p12 (condC g12 ((F38j3 call round K ih1)) ((F38j0 call round K))))
def F38 (call round : Caller) (K : Nat) : FnT := funC 29 (mv (constE (.int .i64 (.ofNat 0))) p2 (mv (constE (.int .i64 (.ofNat 0))) p3 (mv g0 p6 (nilK g6 (put p7 (offK 6 g7 (put p8 (load1K g8 (put p9 (lenK g9 (put p10 (mv (constE (.int .i64 (.ofNat 0))) p11 (loopC (F38b4 call round K) K)))))))))))))
theorem F38_eq (call round : Caller) (K : Nat) : funF T3 call round K 38 = F38 call round K := by kernel_rfl

/-! 45 revetment/revetmentlaw26.played -/
def F45ret : CF := (ret1 g4)
def F45j0 (call round : Caller) (K : Nat) : CF :=
  mv g5 p30 (mv g1 p31 (callK call 76 (fun tm => [g30 tm, g31 tm]) (put p32 (mv g5 p33 (callK call 47 (fun tm => [g33 tm]) (put p34 (callK call 48 (fun tm => [g34 tm]) (put p35 (intK gEql (bin T3 .eql 88) g35 (constE .nilptr) (put p36 (condC g36 (mv (constE .nilptr) p4 (F45ret)) (mv g5 p37 (mv g37 p4 (F45ret))))))))))))))
def F45j1 (call round : Caller) (K : Nat) : CF :=
  loadNK 6 g2 (put p24 (callK call 75 (fun tm => [g24 tm]) (put p25 (mv g25 p23 (extrK 0 g23 (put p26 (extrK 1 g23 (put p27 (mv g26 p5 (mv g27 p6 (mv g6 p28 (intK gNeq (bin T3 .neq 36) g28 (constE (.int .i64 (.ofNat 0))) (put p29 (condC g29 (mv (constE .nilptr) p4 (F45ret)) ((F45j0 call round K))))))))))))))))
def F45j2 (call round : Caller) (K : Nat) : CF :=
  pickK g18 (constE (.bool true)) g21 (put p22 (condC g22 (mv (constE .nilptr) p4 (F45ret)) ((F45j1 call round K))))
def F45j3 (call round : Caller) (K : Nat) : CF :=
  guardK (wantG o18 false) (intK gGtr (bin T3 .gtr 3) g20 (constE (.int .i64 (.ofNat 60))) (put p21 ((F45j2 call round K)))) (put p21 ((F45j2 call round K)))
def F45j4 (call round : Caller) (K : Nat) : CF :=
  guardK (wantG o18 false) (lenK g19 (put p20 ((F45j3 call round K)))) (put p20 ((F45j3 call round K)))
def F45j5 (call round : Caller) (K : Nat) : CF :=
  pickK g10 (constE (.bool true)) g16 (put p17 (mv g17 p18 (guardK (wantG o18 false) (moveK g1 (put p19 ((F45j4 call round K)))) (put p19 ((F45j4 call round K))))))
def F45j6 (call round : Caller) (K : Nat) : CF :=
  guardK (wantG o10 false) (intK gGtr (bin T3 .gtr 3) g15 (constE (.int .i64 (.ofNat 64))) (put p16 ((F45j5 call round K)))) (put p16 ((F45j5 call round K)))
def F45j7 (call round : Caller) (K : Nat) : CF :=
  guardK (wantG o10 false) (intK gMul (bin T3 .mul 3) g12 g14 (put p15 ((F45j6 call round K)))) (put p15 ((F45j6 call round K)))
def F45j8 (call round : Caller) (K : Nat) : CF :=
  guardK (wantG o10 false) (load1K g13 (put p14 ((F45j7 call round K)))) (put p14 ((F45j7 call round K)))
def F45j9 (call round : Caller) (K : Nat) : CF :=
  guardK (wantG o10 false) (offK 1 g2 (put p13 ((F45j8 call round K)))) (put p13 ((F45j8 call round K)))
def F45j10 (call round : Caller) (K : Nat) : CF :=
  guardK (wantG o10 false) (load1K g11 (put p12 ((F45j9 call round K)))) (put p12 ((F45j9 call round K)))
def F45 (call round : Caller) (K : Nat) : FnT := funC 38 (boxK 23 g0 (put p2 (mv (constE .nilptr) p4 (loadNK 6 g2 (put p7 (callK call 74 (fun tm => [g7 tm]) (put p8 (notK g8 (put p9 (mv g9 p10 (guardK (wantG o10 false) (offK 0 g2 (put p11 ((F45j10 call round K)))) (put p11 ((F45j10 call round K))))))))))))))
theorem F45_eq (call round : Caller) (K : Nat) : funF T3 call round K 45 = F45 call round K := by kernel_rfl

/-! 46 revetment/audit.Look -/
def F46ret : CF := (ret2 g2 g3)
def F46j0 (call round : Caller) (K : Nat) : CF :=
  mv g7 p72 (mv g72 p2 (mv (constE (.int .i64 (.ofNat 0))) p3 (F46ret)))
def F46j2 (call round : Caller) (K : Nat) (ih1 : CF) : CF :=
  intK gAdd (bin T3 .add 3) g55 (constE (.int .i64 (.ofNat 1))) (put p71 (mv g71 p55 (ih1)))
def F46j3 (call round : Caller) (K : Nat) (ih1 : CF) : CF :=
  mv g55 p57 (mv g57 p10 (mv g0 p58 (callK call 36 (fun tm => [g58 tm]) (put p59 (mv g10 p60 (callK call 71 (fun tm => [g59 tm, g60 tm]) (put p61 (condC g61 (mv g7 p62 (mv g10 p63 (mv g0 p64 (callK call 34 (fun tm => [g64 tm]) (put p65 (mv g10 p66 (callK call 81 (fun tm => [g65 tm, g66 tm]) (put p67 (valK (buildV (nthPR [(0, 1), (1, 1), (2, 1)]) [(.int .i64 (.ofNat 0)), (.int .i64 (.ofNat 0)), (.int .i64 (.ofNat 0))] (fun tm => [(0, (constE (.int .i64 (.ofNat 5))) tm), (1, g63 tm), (2, g67 tm)])) (put p68 (slowK (buildSliceM [(.int .i64 (.ofNat 0)), (.int .i64 (.ofNat 0)), (.int .i64 (.ofNat 0))] 51 3 1 (fun tm => [(0, g68 tm)])) (put p69 (slowK (appendM 51 3 g62 g69) (put p70 (mv g70 p7 ((F46j2 call round K ih1))))))))))))))))) ((F46j2 call round K ih1))))))))))
def F46b4 (call round : Caller) (K : Nat) (ih1 : CF) : CF :=
  intK gLss (bin T3 .lss 3) g55 g54 (put p56 (condC g56 ((F46j3 call round K ih1)) ((F46j0 call round K))))
def F46j5 (call round : Caller) (K : Nat) : CF :=
  mv g0 p51 (callK call 36 (fun tm => [g51 tm]) (put p52 (callK call 79 (fun tm => [g52 tm]) (put p53 (callK call 24 (fun tm => [g53 tm]) (put p54 (mv (constE (.int .i64 (.ofNat 0))) p55 (loopC (F46b4 call round K) K))))))))
def F46j6 (call round : Caller) (K : Nat) : CF :=
  mv g0 p36 (callK call 36 (fun tm => [g36 tm]) (put p37 (callK call 37 (fun tm => [g37 tm]) (put p38 (callK call 38 (fun tm => [g38 tm]) (put p39 (mv g39 p9 (mv g9 p40 (mv g0 p41 (callK call 36 (fun tm => [g41 tm]) (put p42 (callK call 79 (fun tm => [g42 tm]) (put p43 (callK call 80 (fun tm => [g43 tm]) (put p44 (intK gLss (bin T3 .lss 3) g40 g44 (put p45 (condC g45 (mv g7 p46 (mv g9 p47 (valK (buildV (nthPR [(0, 1), (1, 1), (2, 1)]) [(.int .i64 (.ofNat 0)), (.int .i64 (.ofNat 0)), (.int .i64 (.ofNat 0))] (fun tm => [(0, (constE (.int .i64 (.ofNat 4))) tm), (1, (constE (.int .i64 (.ofNat 0))) tm), (2, g47 tm)])) (put p48 (slowK (buildSliceM [(.int .i64 (.ofNat 0)), (.int .i64 (.ofNat 0)), (.int .i64 (.ofNat 0))] 51 3 1 (fun tm => [(0, g48 tm)])) (put p49 (slowK (appendM 51 3 g46 g49) (put p50 (mv g50 p7 ((F46j5 call round K))))))))))) ((F46j5 call round K))))))))))))))))))))
def F46j8 (call round : Caller) (K : Nat) (ih7 : CF) : CF :=
  intK gAdd (bin T3 .add 3) g23 (constE (.int .i64 (.ofNat 1))) (put p35 (mv g35 p23 (ih7)))
def F46j9 (call round : Caller) (K : Nat) (ih7 : CF) : CF :=
  mv g23 p25 (mv g25 p8 (mv g0 p26 (mv g8 p27 (callK call 78 (fun tm => [g26 tm, g27 tm]) (put p28 (notK g28 (put p29 (condC g29 (mv g7 p30 (mv g8 p31 (valK (buildV (nthPR [(0, 1), (1, 1), (2, 1)]) [(.int .i64 (.ofNat 0)), (.int .i64 (.ofNat 0)), (.int .i64 (.ofNat 0))] (fun tm => [(0, (constE (.int .i64 (.ofNat 3))) tm), (1, g31 tm), (2, (constE (.int .i64 (.ofNat 0))) tm)])) (put p32 (slowK (buildSliceM [(.int .i64 (.ofNat 0)), (.int .i64 (.ofNat 0)), (.int .i64 (.ofNat 0))] 51 3 1 (fun tm => [(0, g32 tm)])) (put p33 (slowK (appendM 51 3 g30 g33) (put p34 (mv g34 p7 ((F46j8 call round K ih7))))))))))) ((F46j8 call round K ih7))))))))))
def F46b10 (call round : Caller) (K : Nat) (ih7 : CF) : CF :=
  intK gLss (bin T3 .lss 3) g23 (constE (.int .i64 (.ofNat 3))) (put p24 (condC g24 ((F46j9 call round K ih7)) ((F46j6 call round K))))
def F46j11 (call round : Caller) (K : Nat) : CF :=
  mv g4 p20 (mv g5 p21 (slowK (appendM 51 3 g20 g21) (put p22 (mv g22 p7 (mv (constE (.int .i64 (.ofNat 0))) p23 (loopC (F46b10 call round K) K))))))
def F46 (call round : Caller) (K : Nat) : FnT := funC 73 (mv (constE .nilslice) p2 (mv (constE (.int .i64 (.ofNat 0))) p3 (mv g0 p12 (callK call 77 (fun tm => [g12 tm]) (put p13 (mv g13 p11 (extrK 0 g11 (put p14 (extrK 1 g11 (put p15 (extrK 2 g11 (put p16 (mv g14 p4 (mv g15 p5 (mv g16 p6 (mv g6 p17 (intK gNeq (bin T3 .neq 36) g17 (constE (.int .i64 (.ofNat 0))) (put p18 (condC g18 (mv g6 p19 (mv (constE .nilslice) p2 (mv g19 p3 (F46ret)))) ((F46j11 call round K)))))))))))))))))))))
theorem F46_eq (call round : Caller) (K : Nat) : funF T3 call round K 46 = F46 call round K := by kernel_rfl

/-! 47 (*revetment/machine.Machine).Store -/
def F47ret : CF := (ret1 g2)
def F47 (call round : Caller) (K : Nat) : FnT := funC 7 (mv (constE .nilptr) p2 (mv g0 p3 (nilK g3 (put p4 (offK 7 g4 (put p5 (load1K g5 (put p6 (mv g6 p2 (F47ret))))))))))
theorem F47_eq (call round : Caller) (K : Nat) : funF T3 call round K 47 = F47 call round K := by kernel_rfl

/-! 48 (*revetment/store.Store).Core -/
def F48ret : CF := (ret1 g2)
def F48j0 (call round : Caller) (K : Nat) : CF :=
  mv g0 p8 (nilK g8 (put p9 (offK 7 g9 (put p10 (load1K g10 (put p11 (nilK g11 (put p12 (offK 0 g12 (put p13 (load1K g13 (put p14 (mv g14 p2 (F48ret))))))))))))))
def F48 (call round : Caller) (K : Nat) : FnT := funC 15 (mv (constE .nilptr) p2 (mv g0 p3 (nilK g3 (put p4 (offK 7 g4 (put p5 (load1K g5 (put p6 (intK gEql (bin T3 .eql 82) g6 (constE .nilptr) (put p7 (condC g7 (mv (constE .nilptr) p2 (F48ret)) ((F48j0 call round K)))))))))))))
theorem F48_eq (call round : Caller) (K : Nat) : funF T3 call round K 48 = F48 call round K := by kernel_rfl

/-! 49 revetment/audit.Of$1 -/
def F49ret : CF := ret0
def F49j1 (call round : Caller) (K : Nat) (ih0 : CF) : CF :=
  intK gAdd (bin T3 .add 3) g8 (constE (.int .i64 (.ofNat 1))) (put p22 (mv g22 p8 (ih0)))
def F49j2 (call round : Caller) (K : Nat) (ih0 : CF) : CF :=
  pickK g16 g20 (constE (.bool false)) (put p21 (condC g21 (F49ret) ((F49j1 call round K ih0))))
def F49j3 (call round : Caller) (K : Nat) (ih0 : CF) : CF :=
  guardK (wantG o16 true) (notK g19 (put p20 ((F49j2 call round K ih0)))) (put p20 ((F49j2 call round K ih0)))
def F49j4 (call round : Caller) (K : Nat) (ih0 : CF) : CF :=
  guardK (wantG o16 true) (callVK call round g17 (fun tm => [g18 tm]) (put p19 ((F49j3 call round K ih0)))) (put p19 ((F49j3 call round K ih0)))
def F49j5 (call round : Caller) (K : Nat) (ih0 : CF) : CF :=
  guardK (wantG o16 true) (loadNK 3 g5 (put p18 ((F49j4 call round K ih0)))) (put p18 ((F49j4 call round K ih0)))
def F49j6 (call round : Caller) (K : Nat) (ih0 : CF) : CF :=
  ixSliK 3 g6 g8 (put p10 (loadNK 3 g10 (put p11 (allocK [(.int .i64 (.ofNat 0)), (.int .i64 (.ofNat 0)), (.int .i64 (.ofNat 0))] 51 (put p5 (storeK 3 g5 g11 (dropS (offK 0 g5 (put p12 (load1K g12 (put p13 (load1K g2 (put p14 (intK gEql (bin T3 .eql 3) g13 g14 (put p15 (mv g15 p16 (guardK (wantG o16 true) (moveK g0 (put p17 ((F49j5 call round K ih0)))) (put p17 ((F49j5 call round K ih0))))))))))))))))))))
def F49b7 (call round : Caller) (K : Nat) (ih0 : CF) : CF :=
  intK gLss (bin T3 .lss 3) g8 g7 (put p9 (condC g9 ((F49j6 call round K ih0)) (F49ret)))
def F49 (call round : Caller) (K : Nat) : FnT := funC 23 (load1K g1 (put p6 (lenK g6 (put p7 (mv (constE (.int .i64 (.ofNat 0))) p8 (loopC (F49b7 call round K) K))))))
theorem F49_eq (call round : Caller) (K : Nat) : funF T3 call round K 49 = F49 call round K := by kernel_rfl

/-! 50 (*revetment/store.Store).start -/
def F50ret : CF := (ret1 g4)
def F50j0 (call round : Caller) (K : Nat) : CF :=
  drawC (fun tm h => adraw T3 call round 36 (regOps T3 50 3) tm h) (mv g6 p25 (intK gEql (bin T3 .eql 36) g25 (constE (.int .i64 (.ofNat 0))) (put p26 (condC g26 (mv g0 p27 (mv g5 p28 (mv g5 p29 (callK call 82 (fun tm => [g29 tm]) (put p30 (valK (buildV (nthPR [(0, 1), (1, 1)]) [.nilptr, .nilptr] (fun tm => [(0, g28 tm), (1, g30 tm)])) (put p31 (boxK 91 g31 (put p32 (nilK g27 (put p33 (offK 7 g33 (put p34 (storeK 1 g34 g32 (dropS (mv g6 p35 (mv g35 p4 (F50ret)))))))))))))))))) (mv g6 p35 (mv g35 p4 (F50ret)))))))
def F50 (call round : Caller) (K : Nat) : FnT := funC 36 (mv (constE (.int .i64 (.ofNat 0))) p4 (mv g0 p7 (nilK g7 (put p8 (offK 7 g8 (put p9 (load1K g9 (put p10 (intK gNeq (bin T3 .neq 82) g10 (constE .nilptr) (put p11 (condC g11 (mv (constE (.int .i64 (.ofNat 43))) p4 (F50ret)) ((F50j0 call round K)))))))))))))
theorem F50_eq (call round : Caller) (K : Nat) : funF T3 call round K 50 = F50 call round K := by kernel_rfl

/-! 51 revetment/mount.Format -/
def F51ret : CF := (ret2 g4 g5)
def F51j0 (call round : Caller) (K : Nat) : CF :=
  mv g15 p89 (mv g89 p4 (mv (constE (.int .i64 (.ofNat 0))) p5 (F51ret)))
def F51j1 (call round : Caller) (K : Nat) : CF :=
  drawC (fun tm h => adraw T3 call round 90 (regOps T3 51 20) tm h) (mv g15 p84 (callK call 65 (fun tm => [g84 tm]) (put p85 (mv g85 p16 (mv g16 p86 (intK gNeq (bin T3 .neq 36) g86 (constE (.int .i64 (.ofNat 0))) (put p87 (condC g87 (mv g16 p88 (mv (constE .nilptr) p4 (mv g88 p5 (F51ret)))) ((F51j0 call round K))))))))))
def F51j2 (call round : Caller) (K : Nat) : CF :=
  loadNK 6 g3 (put p63 (callK call 89 (fun tm => [g63 tm]) (put p64 (mv g64 p62 (extrK 0 g62 (put p65 (extrK 1 g62 (put p66 (mv g65 p14 (mv g66 p8 (mv g8 p67 (intK gNeq (bin T3 .neq 36) g67 (constE (.int .i64 (.ofNat 0))) (put p68 (condC g68 (mv g8 p69 (mv (constE .nilptr) p4 (mv g69 p5 (F51ret)))) ((F51j1 call round K))))))))))))))))
def F51j4 (call round : Caller) (K : Nat) (ih3 : CF) : CF :=
  intK gAdd (bin T3 .add 3) g45 (constE (.int .i64 (.ofNat 1))) (put p61 (mv g61 p45 (ih3)))
def F51j5 (call round : Caller) (K : Nat) (ih3 : CF) : CF :=
  mv g45 p47 (mv g47 p11 (mv g6 p49 (callK call 37 (fun tm => [g49 tm]) (put p50 (mv g11 p51 (callK call 87 (fun tm => [g50 tm, g51 tm]) (put p52 (mv g52 p48 (extrK 0 g48 (put p53 (extrK 1 g48 (put p54 (mv g53 p12 (mv g54 p13 (mv g13 p55 (intK gEql (bin T3 .eql 36) g55 (constE (.int .i64 (.ofNat 0))) (put p56 (condC g56 (mv g10 p57 (mv g11 p58 (mv g12 p59 (callK call 88 (fun tm => [g57 tm, g58 tm, (constE (.int .i64 (.negSucc 0))) tm, g59 tm]) (put p60 ((F51j4 call round K ih3))))))) ((F51j4 call round K ih3))))))))))))))))))))
def F51b6 (call round : Caller) (K : Nat) (ih3 : CF) : CF :=
  intK gLss (bin T3 .lss 3) g45 (constE (.int .i64 (.ofNat 3))) (put p46 (condC g46 ((F51j5 call round K ih3)) ((F51j2 call round K))))
def F51j7 (call round : Caller) (K : Nat) : CF :=
  mv g6 p43 (callK call 86 (fun tm => [g43 tm]) (put p44 (mv g44 p10 (mv (constE (.int .i64 (.ofNat 0))) p45 (loopC (F51b6 call round K) K)))))
def F51j8 (call round : Caller) (K : Nat) : CF :=
  mv g6 p35 (loadNK 6 g3 (put p36 (callK call 24 (fun tm => [g36 tm]) (put p37 (slowK (makeSliceM [(.int .i64 (.ofNat 0))] 3 g37 g37) (put p38 (callK call 85 (fun tm => [g35 tm, g38 tm]) (put p39 (mv g39 p9 (mv g9 p40 (intK gNeq (bin T3 .neq 36) g40 (constE (.int .i64 (.ofNat 0))) (put p41 (condC g41 (mv g9 p42 (mv (constE .nilptr) p4 (mv g42 p5 (F51ret)))) ((F51j7 call round K)))))))))))))))
def F51j9 (call round : Caller) (K : Nat) : CF :=
  pickK g30 (constE (.bool true)) g33 (put p34 (condC g34 (mv (constE .nilptr) p4 (mv (constE (.int .i64 (.ofNat 40))) p5 (F51ret))) ((F51j8 call round K))))
def F51j10 (call round : Caller) (K : Nat) : CF :=
  guardK (wantG o30 false) (intK gGeq (bin T3 .geq 3) g32 (constE (.int .i64 (.ofNat 281474976710655))) (put p33 ((F51j9 call round K)))) (put p33 ((F51j9 call round K)))
def F51j11 (call round : Caller) (K : Nat) : CF :=
  guardK (wantG o30 false) (callK call 84 (fun tm => [g31 tm]) (put p32 ((F51j10 call round K)))) (put p32 ((F51j10 call round K)))
def F51j12 (call round : Caller) (K : Nat) : CF :=
  offK 2 g7 (put p27 (load1K g27 (put p28 (intK gGeq (bin T3 .geq 3) g28 (constE (.int .i64 (.ofNat 4294967295))) (put p29 (mv g29 p30 (guardK (wantG o30 false) (loadNK 3 g7 (put p31 ((F51j11 call round K)))) (put p31 ((F51j11 call round K))))))))))
def F51 (call round : Caller) (K : Nat) : FnT := funC 90 (boxK 23 g1 (put p3 (mv (constE .nilptr) p4 (mv (constE (.int .i64 (.ofNat 0))) p5 (mv g0 p18 (loadNK 6 g3 (put p19 (callK call 83 (fun tm => [g18 tm, g19 tm]) (put p20 (mv g20 p17 (extrK 0 g17 (put p21 (extrK 1 g17 (put p22 (extrK 2 g17 (put p23 (allocK [.nilslice, .nilslice, (.int .i64 (.ofNat 0))] 165 (put p7 (mv g21 p6 (storeK 3 g7 g22 (dropS (mv g23 p8 (mv g8 p24 (intK gNeq (bin T3 .neq 36) g24 (constE (.int .i64 (.ofNat 0))) (put p25 (condC g25 (mv g8 p26 (mv (constE .nilptr) p4 (mv g26 p5 (F51ret)))) ((F51j12 call round K))))))))))))))))))))))))))))
theorem F51_eq (call round : Caller) (K : Nat) : funF T3 call round K 51 = F51 call round K := by kernel_rfl

/-! 60 revetment/zdev.New -/
def F60ret : CF := (ret2 g6 g7)
def F60j0 (call round : Caller) (K : Nat) : CF :=
  mv g8 p45 (mv g45 p6 (mv (constE (.int .i64 (.ofNat 0))) p7 (F60ret)))
def F60j2 (call round : Caller) (K : Nat) (ih1 : CF) : CF :=
  intK gAdd (bin T3 .add 3) g24 (constE (.int .i64 (.ofNat 1))) (put p44 (mv g44 p24 (ih1)))
def F60j3 (call round : Caller) (K : Nat) (ih1 : CF) : CF :=
  mv g8 p34 (mv g8 p35 (nilK g35 (put p36 (offK 0 g36 (put p37 (load1K g37 (put p38 (mv g9 p39 (slowK (buildSliceM [.nilptr] 205 1 1 (fun tm => [(0, g39 tm)])) (put p40 (slowK (appendM 205 1 g38 g40) (put p41 (nilK g34 (put p42 (offK 0 g42 (put p43 (storeK 1 g43 g41 (dropS ((F60j2 call round K ih1))))))))))))))))))))
def F60j4 (call round : Caller) (K : Nat) (ih1 : CF) : CF :=
  mv g1 p27 (callK call 109 (fun tm => [g27 tm]) (put p28 (mv g28 p26 (extrK 0 g26 (put p29 (extrK 1 g26 (put p30 (mv g29 p9 (mv g30 p10 (mv g10 p31 (intK gNeq (bin T3 .neq 36) g31 (constE (.int .i64 (.ofNat 0))) (put p32 (condC g32 (mv g10 p33 (mv (constE .nilptr) p6 (mv g33 p7 (F60ret)))) ((F60j3 call round K ih1)))))))))))))))
def F60b5 (call round : Caller) (K : Nat) (ih1 : CF) : CF :=
  intK gLss (bin T3 .lss 3) g24 g23 (put p25 (condC g25 ((F60j4 call round K ih1)) ((F60j0 call round K))))
def F60j6 (call round : Caller) (K : Nat) : CF :=
  mv g1 p19 (mv g2 p20 (valK (buildV (nthPR [(0, 1), (1, 1), (2, 1), (3, 1), (4, 1)]) [.nilslice, (.int .i64 (.ofNat 0)), (.int .i64 (.ofNat 0)), (.int .i64 (.ofNat 0)), (.bool false)] (fun tm => [(1, g19 tm), (2, g20 tm)])) (put p21 (boxK 77 g21 (put p22 (mv g22 p8 (mv g0 p23 (mv (constE (.int .i64 (.ofNat 0))) p24 (loopC (F60b5 call round K) K)))))))))
def F60j7 (call round : Caller) (K : Nat) : CF :=
  pickK g14 (constE (.bool true)) g17 (put p18 (condC g18 (mv (constE .nilptr) p6 (mv (constE (.int .i64 (.ofNat 13))) p7 (F60ret))) ((F60j6 call round K))))
def F60j8 (call round : Caller) (K : Nat) : CF :=
  guardK (wantG o14 false) (notK g16 (put p17 ((F60j7 call round K)))) (put p17 ((F60j7 call round K)))
def F60j9 (call round : Caller) (K : Nat) : CF :=
  guardK (wantG o14 false) (callK call 108 (fun tm => [g15 tm, (constE (.int .i64 (.ofNat 64))) tm]) (put p16 ((F60j8 call round K)))) (put p16 ((F60j8 call round K)))
def F60 (call round : Caller) (K : Nat) : FnT := funC 46 (mv (constE .nilptr) p6 (mv (constE (.int .i64 (.ofNat 0))) p7 (mv g0 p11 (callK call 108 (fun tm => [g11 tm, (constE (.int .i64 (.ofNat 512))) tm]) (put p12 (notK g12 (put p13 (mv g13 p14 (guardK (wantG o14 false) (moveK g2 (put p15 ((F60j9 call round K)))) (put p15 ((F60j9 call round K))))))))))))
theorem F60_eq (call round : Caller) (K : Nat) : funF T3 call round K 60 = F60 call round K := by kernel_rfl

/-! 61 revetment/mirror.New -/
def F61ret : CF := (ret2 g6 g7)
def F61j0 (call round : Caller) (K : Nat) : CF :=
  drawC (fun tm h => adraw T3 call round 42 (regOps T3 61 4) tm h) (F61ret)
def F61 (call round : Caller) (K : Nat) : FnT := funC 42 (boxK 23 g1 (put p4 (boxK 125 g2 (put p5 (mv (constE .nilptr) p6 (mv (constE (.int .i64 (.ofNat 0))) p7 (loadNK 6 g4 (put p11 (callK call 110 (fun tm => [g11 tm]) (put p12 (mv g12 p10 (extrK 0 g10 (put p13 (extrK 1 g10 (put p14 (mv g13 p8 (mv g14 p9 (drawC (fun tm h => adraw T3 call round 42 (regOps T3 61 2) tm h) (condC g32 (mv (constE .nilptr) p6 (mv (constE (.int .i64 (.ofNat 20))) p7 (F61ret))) ((F61j0 call round K)))))))))))))))))))))
theorem F61_eq (call round : Caller) (K : Nat) : funF T3 call round K 61 = F61 call round K := by kernel_rfl

/-! 62 revetment/crc.New -/
def F62ret : CF := (retC T3 [.cell 0 125])
def F62j0 (call round : Caller) (K : Nat) : CF :=
  loadNK 256 g1 (put p25 (storeK 256 g0 g25 (dropS (F62ret))))
def F62j2 (call round : Caller) (K : Nat) (ih1 : CF) : CF :=
  intK gAdd (bin T3 .add 3) g5 (constE (.int .i64 (.ofNat 1))) (put p24 (mv g24 p5 (ih1)))
def F62j3 (call round : Caller) (K : Nat) (ih1 : CF) : CF :=
  mv g2 p21 (mv g3 p22 (ixArrK 256 1 g1 g21 (put p23 (storeK 1 g23 g22 (dropS ((F62j2 call round K ih1)))))))
def F62j5 (call round : Caller) (K : Nat) (ih1 : CF) (ih4 : CF) : CF :=
  intK gAdd (bin T3 .add 3) g10 (constE (.int .i64 (.ofNat 1))) (put p20 (mv g20 p10 (ih4)))
def F62j6 (call round : Caller) (K : Nat) (ih1 : CF) (ih4 : CF) : CF :=
  mv g3 p12 (binK (bin T3 .and 123) g12 (constE (.int .u32 (.ofNat 1))) (put p13 (mv g13 p4 (mv g3 p14 (binK (bin T3 .shr 123) g14 (constE (.int .u64 (.ofNat 1))) (put p15 (mv g15 p3 (mv g4 p16 (intK gEql (bin T3 .eql 123) g16 (constE (.int .u32 (.ofNat 1))) (put p17 (condC g17 (mv g3 p18 (binK (bin T3 .xor 123) g18 (constE (.int .u32 (.ofNat 2197175160))) (put p19 (mv g19 p3 ((F62j5 call round K ih1 ih4)))))) ((F62j5 call round K ih1 ih4)))))))))))))
def F62b7 (call round : Caller) (K : Nat) (ih1 : CF) (ih4 : CF) : CF :=
  intK gLss (bin T3 .lss 3) g10 (constE (.int .i64 (.ofNat 8))) (put p11 (condC g11 ((F62j6 call round K ih1 ih4)) ((F62j3 call round K ih1))))
def F62j8 (call round : Caller) (K : Nat) (ih1 : CF) : CF :=
  mv g5 p7 (mv g7 p2 (mv g2 p8 (convK .u32 g8 (put p9 (mv g9 p3 (mv (constE (.int .i64 (.ofNat 0))) p10 (loopC (F62b7 call round K ih1) K)))))))
def F62b9 (call round : Caller) (K : Nat) (ih1 : CF) : CF :=
  intK gLss (bin T3 .lss 3) g5 (constE (.int .i64 (.ofNat 256))) (put p6 (condC g6 ((F62j8 call round K ih1)) ((F62j0 call round K))))
def F62 (call round : Caller) (K : Nat) : FnT := funC 26 (allocK (List.replicate 256 (.int .u32 (.ofNat 0))) 125 (put p0 (allocK (List.replicate 256 (.int .u32 (.ofNat 0))) 125 (put p1 (mv (constE (.int .i64 (.ofNat 0))) p5 (loopC (F62b9 call round K) K))))))
theorem F62_eq (call round : Caller) (K : Nat) : funF T3 call round K 62 = F62 call round K := by kernel_rfl

/-! 65 (*revetment/core.Core).Checkpoint -/
def F65ret : CF := (ret1 g2)
def F65j0 (call round : Caller) (K : Nat) : CF :=
  mv (constE (.int .i64 (.ofNat 0))) p2 (F65ret)
def F65j2 (call round : Caller) (K : Nat) (ih1 : CF) : CF :=
  intK gAdd (bin T3 .add 3) g63 (constE (.int .i64 (.ofNat 1))) (put p76 (mv g76 p63 (ih1)))
def F65j3 (call round : Caller) (K : Nat) (ih1 : CF) : CF :=
  mv g0 p70 (mv g6 p71 (callK call 118 (fun tm => [g70 tm, g71 tm]) (put p72 (mv g72 p7 (mv g7 p73 (intK gNeq (bin T3 .neq 36) g73 (constE (.int .i64 (.ofNat 0))) (put p74 (condC g74 (mv g7 p75 (mv g75 p2 (F65ret))) ((F65j2 call round K ih1))))))))))
def F65j4 (call round : Caller) (K : Nat) (ih1 : CF) : CF :=
  mv g63 p65 (mv g65 p6 (mv g0 p66 (mv g6 p67 (callK call 117 (fun tm => [g66 tm, g67 tm]) (put p68 (notK g68 (put p69 (condC g69 ((F65j2 call round K ih1)) ((F65j3 call round K ih1))))))))))
def F65b5 (call round : Caller) (K : Nat) (ih1 : CF) : CF :=
  intK gLss (bin T3 .lss 3) g63 g62 (put p64 (condC g64 ((F65j4 call round K ih1)) ((F65j0 call round K))))
def F65j6 (call round : Caller) (K : Nat) : CF :=
  mv g0 p57 (nilK g57 (put p58 (offK 0 g58 (put p59 (load1K g59 (put p60 (callK call 79 (fun tm => [g60 tm]) (put p61 (callK call 24 (fun tm => [g61 tm]) (put p62 (mv (constE (.int .i64 (.ofNat 0))) p63 (loopC (F65b5 call round K) K))))))))))))
def F65j7 (call round : Caller) (K : Nat) : CF :=
  mv g0 p17 (nilK g17 (put p18 (offK 3 g18 (put p19 (offK 0 g19 (put p20 (load1K g20 (put p21 (intK gAdd (bin T3 .add 3) g21 (constE (.int .i64 (.ofNat 1))) (put p22 (nilK g17 (put p23 (offK 3 g23 (put p24 (offK 0 g24 (put p25 (storeK 1 g25 g22 (dropS (drawC (fun tm h => adraw T3 call round 77 (regOps T3 65 5) tm h) (mv g5 p54 (intK gNeq (bin T3 .neq 36) g54 (constE (.int .i64 (.ofNat 0))) (put p55 (condC g55 (mv g5 p56 (mv g56 p2 (F65ret))) ((F65j6 call round K)))))))))))))))))))))))))
def F65 (call round : Caller) (K : Nat) : FnT := funC 77 (mv (constE (.int .i64 (.ofNat 0))) p2 (mv g0 p8 (nilK g8 (put p9 (offK 0 g9 (put p10 (load1K g10 (put p11 (callK call 114 (fun tm => [g11 tm]) (put p12 (callK call 115 (fun tm => [g12 tm]) (put p13 (mv g13 p3 (mv g3 p14 (intK gNeq (bin T3 .neq 36) g14 (constE (.int .i64 (.ofNat 0))) (put p15 (condC g15 (mv g3 p16 (mv g16 p2 (F65ret))) ((F65j7 call round K)))))))))))))))))))
theorem F65_eq (call round : Caller) (K : Nat) : funF T3 call round K 65 = F65 call round K := by kernel_rfl

/-! 68 (*revetment/queue.Queue[int]).Len -/
def F68ret : CF := (ret1 g2)
def F68 (call round : Caller) (K : Nat) : FnT := funC 8 (mv (constE (.int .i64 (.ofNat 0))) p2 (mv g0 p3 (nilK g3 (put p4 (offK 0 g4 (put p5 (load1K g5 (put p6 (slowK (lenChM g6) (put p7 (mv g7 p2 (F68ret))))))))))))
theorem F68_eq (call round : Caller) (K : Nat) : funF T3 call round K 68 = F68 call round K := by kernel_rfl

/-! 69 (*revetment/pool.Pool).Count -/
def F69ret : CF := (ret1 g4)
def F69j0 (call round : Caller) (K : Nat) : CF :=
  mv g0 p16 (nilK g16 (put p17 (offK 6 g17 (put p18 (load1K g18 (put p19 (mv g1 p20 (ixSliK 1 g19 g20 (put p21 (load1K g21 (put p22 (callK call 68 (fun tm => [g22 tm]) (put p23 (mv g23 p4 (F69ret)))))))))))))))
def F69j1 (call round : Caller) (K : Nat) : CF :=
  pickK g7 (constE (.bool true)) g14 (put p15 (condC g15 (mv (constE (.int .i64 (.ofNat 0))) p4 (F69ret)) ((F69j0 call round K))))
def F69j2 (call round : Caller) (K : Nat) : CF :=
  guardK (wantG o7 false) (intK gGeq (bin T3 .geq 3) g8 g13 (put p14 ((F69j1 call round K)))) (put p14 ((F69j1 call round K)))
def F69j3 (call round : Caller) (K : Nat) : CF :=
  guardK (wantG o7 false) (lenK g12 (put p13 ((F69j2 call round K)))) (put p13 ((F69j2 call round K)))
def F69j4 (call round : Caller) (K : Nat) : CF :=
  guardK (wantG o7 false) (load1K g11 (put p12 ((F69j3 call round K)))) (put p12 ((F69j3 call round K)))
def F69j5 (call round : Caller) (K : Nat) : CF :=
  guardK (wantG o7 false) (offK 6 g10 (put p11 ((F69j4 call round K)))) (put p11 ((F69j4 call round K)))
def F69j6 (call round : Caller) (K : Nat) : CF :=
  guardK (wantG o7 false) (nilK g9 (put p10 ((F69j5 call round K)))) (put p10 ((F69j5 call round K)))
def F69j7 (call round : Caller) (K : Nat) : CF :=
  guardK (wantG o7 false) (moveK g0 (put p9 ((F69j6 call round K)))) (put p9 ((F69j6 call round K)))
def F69 (call round : Caller) (K : Nat) : FnT := funC 24 (mv (constE (.int .i64 (.ofNat 0))) p4 (mv g1 p5 (intK gLss (bin T3 .lss 3) g5 (constE (.int .i64 (.ofNat 0))) (put p6 (mv g6 p7 (guardK (wantG o7 false) (moveK g1 (put p8 ((F69j7 call round K)))) (put p8 ((F69j7 call round K)))))))))
theorem F69_eq (call round : Caller) (K : Nat) : funF T3 call round K 69 = F69 call round K := by kernel_rfl

/-! 70 (*revetment/pool.Pool).fullest -/
def F70ret : CF := (ret1 g4)
def F70j1 (call round : Caller) (K : Nat) (ih0 : CF) : CF :=
  intK gAdd (bin T3 .add 3) g13 (constE (.int .i64 (.ofNat 1))) (put p39 (mv g39 p13 (ih0)))
def F70j2 (call round : Caller) (K : Nat) (ih0 : CF) : CF :=
  mv g13 p15 (ixSliK 1 g11 g13 (put p16 (load1K g16 (put p17 (mv g15 p6 (mv g17 p7 (drawC (fun tm h => adraw T3 call round 41 (regOps T3 70 5) tm h) (condC g37 (mv g6 p38 (mv g38 p5 ((F70j1 call round K ih0)))) ((F70j1 call round K ih0))))))))))
def F70b3 (call round : Caller) (K : Nat) (ih0 : CF) : CF :=
  intK gLss (bin T3 .lss 3) g13 g12 (put p14 (condC g14 ((F70j2 call round K ih0)) (mv g5 p40 (mv g40 p4 (F70ret)))))
def F70 (call round : Caller) (K : Nat) : FnT := funC 41 (mv (constE (.int .i64 (.ofNat 0))) p4 (mv (constE (.int .i64 (.negSucc 0))) p5 (mv g0 p8 (nilK g8 (put p9 (offK 6 g9 (put p10 (load1K g10 (put p11 (lenK g11 (put p12 (mv (constE (.int .i64 (.ofNat 0))) p13 (loopC (F70b3 call round K) K)))))))))))))
theorem F70_eq (call round : Caller) (K : Nat) : funF T3 call round K 70 = F70 call round K := by kernel_rfl

/-! 71 (*revetment/mirror.Mirror).Bad -/
def F71ret : CF := (ret1 g4)
def F71j0 (call round : Caller) (K : Nat) : CF :=
  pickK g12 g20 (constE (.bool false)) (put p21 (mv g21 p4 (F71ret)))
def F71j1 (call round : Caller) (K : Nat) : CF :=
  guardK (wantG o12 true) (intK gEql (bin T3 .eql 3) g19 (constE (.int .i64 (.ofNat 1))) (put p20 ((F71j0 call round K)))) (put p20 ((F71j0 call round K)))
def F71j2 (call round : Caller) (K : Nat) : CF :=
  guardK (wantG o12 true) (load1K g18 (put p19 ((F71j1 call round K)))) (put p19 ((F71j1 call round K)))
def F71j3 (call round : Caller) (K : Nat) : CF :=
  guardK (wantG o12 true) (ixSliK 1 g16 g17 (put p18 ((F71j2 call round K)))) (put p18 ((F71j2 call round K)))
def F71j4 (call round : Caller) (K : Nat) : CF :=
  guardK (wantG o12 true) (moveK g1 (put p17 ((F71j3 call round K)))) (put p17 ((F71j3 call round K)))
def F71j5 (call round : Caller) (K : Nat) : CF :=
  guardK (wantG o12 true) (load1K g15 (put p16 ((F71j4 call round K)))) (put p16 ((F71j4 call round K)))
def F71j6 (call round : Caller) (K : Nat) : CF :=
  guardK (wantG o12 true) (offK 264 g14 (put p15 ((F71j5 call round K)))) (put p15 ((F71j5 call round K)))
def F71j7 (call round : Caller) (K : Nat) : CF :=
  guardK (wantG o12 true) (nilK g13 (put p14 ((F71j6 call round K)))) (put p14 ((F71j6 call round K)))
def F71 (call round : Caller) (K : Nat) : FnT := funC 22 (mv (constE (.bool false)) p4 (mv g0 p5 (nilK g5 (put p6 (offK 1 g6 (put p7 (loadNK 6 g7 (put p8 (mv g1 p9 (callK call 126 (fun tm => [g8 tm, g9 tm]) (put p10 (intK gGeq (bin T3 .geq 3) g10 (constE (.int .i64 (.ofNat 0))) (put p11 (mv g11 p12 (guardK (wantG o12 true) (moveK g0 (put p13 ((F71j7 call round K)))) (put p13 ((F71j7 call round K))))))))))))))))))
theorem F71_eq (call round : Caller) (K : Nat) : funF T3 call round K 71 = F71 call round K := by kernel_rfl

/-! 74 (revetment/geom.Geom).Right -/
def F74ret : CF := (ret1 g2)
def F74 (call round : Caller) (K : Nat) : FnT := funC 23 (boxK 23 g0 (put p1 (mv (constE (.bool false)) p2 (drawC (fun tm h => adraw T3 call round 23 (regOps T3 74 1) tm h) (F74ret)))))
theorem F74_eq (call round : Caller) (K : Nat) : funF T3 call round K 74 = F74 call round K := by kernel_rfl

/-! 75 revetment/machine.New -/
def F75ret : CF := (ret2 g2 g3)
def F75j0 (call round : Caller) (K : Nat) : CF :=
  drawC (fun tm h => adraw T3 call round 43 (regOps T3 75 9) tm h) (F75ret)
def F75j1 (call round : Caller) (K : Nat) : CF :=
  mv g4 p24 (loadNK 6 g1 (put p25 (callK call 25 (fun tm => [g24 tm, g25 tm]) (put p26 (mv g26 p23 (extrK 0 g23 (put p27 (extrK 1 g23 (put p28 (mv g27 p6 (mv g28 p5 (mv g5 p29 (intK gNeq (bin T3 .neq 36) g29 (constE (.int .i64 (.ofNat 0))) (put p30 (condC g30 (mv g5 p31 (mv (constE .nilptr) p2 (mv g31 p3 (F75ret)))) ((F75j0 call round K)))))))))))))))))
def F75j2 (call round : Caller) (K : Nat) : CF :=
  drawC (fun tm h => adraw T3 call round 43 (regOps T3 75 3) tm h) (mv g5 p20 (intK gNeq (bin T3 .neq 36) g20 (constE (.int .i64 (.ofNat 0))) (put p21 (condC g21 (mv g5 p22 (mv (constE .nilptr) p2 (mv g22 p3 (F75ret)))) ((F75j1 call round K))))))
def F75 (call round : Caller) (K : Nat) : FnT := funC 43 (boxK 23 g0 (put p1 (mv (constE .nilptr) p2 (mv (constE (.int .i64 (.ofNat 0))) p3 (loadNK 6 g1 (put p7 (callK call 74 (fun tm => [g7 tm]) (put p8 (notK g8 (put p9 (condC g9 (mv (constE .nilptr) p2 (mv (constE (.int .i64 (.ofNat 20))) p3 (F75ret))) ((F75j2 call round K)))))))))))))
theorem F75_eq (call round : Caller) (K : Nat) : funF T3 call round K 75 = F75 call round K := by kernel_rfl

/-! 76 (*revetment/machine.Machine).Run -/
def F76ret : CF := (ret1 g4)
def F76j1 (call round : Caller) (K : Nat) (ih0 : CF) : CF :=
  intK gAdd (bin T3 .add 3) g10 (constE (.int .i64 (.ofNat 1))) (put p20 (mv g20 p10 (ih0)))
def F76j2 (call round : Caller) (K : Nat) (ih0 : CF) : CF :=
  ixSliK 73 g8 g10 (put p12 (loadNK 73 g12 (put p13 (allocK (List.replicate 3 (.int .i64 (.ofNat 0)) ++ [(.str ⟨#[]⟩)] ++ List.replicate 4 (.int .i64 (.ofNat 0)) ++ List.replicate 64 (.int .u8 (.ofNat 0)) ++ [(.str ⟨#[]⟩)]) 103 (put p7 (storeK 73 g7 g13 (dropS (mv g5 p14 (mv g0 p15 (loadNK 73 g7 (put p16 (callK call 131 (fun tm => [g15 tm, g16 tm]) (put p17 (slowK (buildSliceM [(.int .i64 (.ofNat 0)), (.str ⟨#[]⟩), (.bool false)] 217 3 1 (fun tm => [(0, g17 tm)])) (put p18 (slowK (appendM 217 3 g14 g18) (put p19 (mv g19 p5 ((F76j1 call round K ih0))))))))))))))))))))
def F76b3 (call round : Caller) (K : Nat) (ih0 : CF) : CF :=
  intK gLss (bin T3 .lss 3) g10 g9 (put p11 (condC g11 ((F76j2 call round K ih0)) (mv g5 p21 (mv g21 p4 (F76ret)))))
def F76 (call round : Caller) (K : Nat) : FnT := funC 22 (mv (constE .nilslice) p4 (mv (constE .nilslice) p5 (mv g1 p8 (lenK g8 (put p9 (mv (constE (.int .i64 (.ofNat 0))) p10 (loopC (F76b3 call round K) K)))))))
theorem F76_eq (call round : Caller) (K : Nat) : funF T3 call round K 76 = F76 call round K := by kernel_rfl

/-! 77 revetment/audit.blocks -/
def F77ret : CF := (retC T3 [.cell 2 48, .cell 3 48, .cell 4 36])
def F77j0 (call round : Caller) (K : Nat) : CF :=
  drawC (fun tm h => adraw T3 call round 57 (regOps T3 77 14) tm h) (F77ret)
def F77 (call round : Caller) (K : Nat) : FnT := funC 57 (boxK 88 g0 (put p1 (allocK [.nilslice] 48 (put p2 (allocK [.nilslice] 48 (put p3 (allocK [(.int .i64 (.ofNat 0))] 36 (put p4 (load1K g1 (put p10 (callK call 34 (fun tm => [g10 tm]) (put p11 (callK call 132 (fun tm => [g11 tm]) (put p12 (rangeS T3 call 77 57 none 0 (fun _ => badC) [(0, (F77j0 call round K))] F77ret ((F77j0 call round K)))))))))))))))))
theorem F77_eq (call round : Caller) (K : Nat) : funF T3 call round K 77 = F77 call round K := by kernel_rfl

/-! 78 revetment/audit.holds -/
def F78ret : CF := (ret1 g4)
def F78j0 (call round : Caller) (K : Nat) : CF :=
  drawC (fun tm h => adraw T3 call round 58 (regOps T3 78 8) tm h) (drawC (fun tm h => adraw T3 call round 58 (regOps T3 78 9) tm h) (F78ret))
def F78j1 (call round : Caller) (K : Nat) : CF :=
  allocK [.nilslice] 225 (put p7 (mv g0 p27 (callK call 36 (fun tm => [g27 tm]) (put p28 (callK call 114 (fun tm => [g28 tm]) (put p29 (callK call 7 (fun tm => [g29 tm]) (put p30 (mv g5 p31 (callK call 135 (fun tm => [g30 tm, g31 tm]) (put p32 (rangeS T3 call 78 58 none 0 (fun _ => badC) [(0, (F78j0 call round K))] F78ret ((F78j0 call round K))))))))))))))
def F78j2 (call round : Caller) (K : Nat) : CF :=
  pickK g21 (constE (.bool true)) g25 (put p26 (condC g26 (mv (constE (.bool false)) p4 (F78ret)) ((F78j1 call round K))))
def F78j3 (call round : Caller) (K : Nat) : CF :=
  guardK (wantG o21 false) (callK call 71 (fun tm => [g23 tm, g24 tm]) (put p25 ((F78j2 call round K)))) (put p25 ((F78j2 call round K)))
def F78j4 (call round : Caller) (K : Nat) : CF :=
  guardK (wantG o21 false) (moveK g5 (put p24 ((F78j3 call round K)))) (put p24 ((F78j3 call round K)))
def F78j5 (call round : Caller) (K : Nat) : CF :=
  guardK (wantG o21 false) (callK call 36 (fun tm => [g22 tm]) (put p23 ((F78j4 call round K)))) (put p23 ((F78j4 call round K)))
def F78 (call round : Caller) (K : Nat) : FnT := funC 58 (mv (constE (.bool false)) p4 (mv g0 p13 (callK call 133 (fun tm => [g13 tm]) (put p14 (mv g1 p15 (callK call 134 (fun tm => [g14 tm, g15 tm]) (put p16 (mv g16 p12 (extrK 0 g12 (put p17 (extrK 1 g12 (put p18 (mv g17 p5 (mv g18 p6 (mv g5 p19 (intK gEql (bin T3 .eql 3) g19 (constE (.int .i64 (.negSucc 0))) (put p20 (mv g20 p21 (guardK (wantG o21 false) (moveK g0 (put p22 ((F78j5 call round K)))) (put p22 ((F78j5 call round K))))))))))))))))))))))
theorem F78_eq (call round : Caller) (K : Nat) : funF T3 call round K 78 = F78 call round K := by kernel_rfl

/-! 79 (*revetment/mirror.Mirror).Geom -/
def F79ret : CF := (retC T3 [.cell 2 23])
def F79 (call round : Caller) (K : Nat) : FnT := funC 7 (allocK [(.int .i64 (.ofNat 0)), (.int .i64 (.ofNat 0)), (.int .i64 (.ofNat 0)), (.int .i64 (.ofNat 0)), (.int .i64 (.ofNat 0)), (.int .i64 (.ofNat 0))] 23 (put p2 (mv g0 p3 (nilK g3 (put p4 (offK 1 g4 (put p5 (loadNK 6 g5 (put p6 (storeK 6 g2 g6 (dropS (F79ret))))))))))))
theorem F79_eq (call round : Caller) (K : Nat) : funF T3 call round K 79 = F79 call round K := by kernel_rfl

/-! 80 (revetment/geom.Geom).Reserve -/
def F80ret : CF := (ret1 g2)
def F80 (call round : Caller) (K : Nat) : FnT := funC 9 (boxK 23 g0 (put p1 (mv (constE (.int .i64 (.ofNat 0))) p2 (offK 0 g1 (put p3 (load1K g3 (put p4 (offK 4 g1 (put p5 (load1K g5 (put p6 (intK gMul (bin T3 .mul 3) g4 g6 (put p7 (intK gAdd (bin T3 .add 3) g7 (constE (.int .i64 (.ofNat 4))) (put p8 (mv g8 p2 (F80ret)))))))))))))))))
theorem F80_eq (call round : Caller) (K : Nat) : funF T3 call round K 80 = F80 call round K := by kernel_rfl

/-! 82 revetment/scrub.New -/
def F82ret : CF := (ret1 g2)
def F82 (call round : Caller) (K : Nat) : FnT := funC 6 (mv (constE .nilptr) p2 (mv g0 p3 (valK (buildV (nthPR [(0, 1), (1, 1), (2, 1), (3, 1), (4, 1), (5, 1), (6, 2)]) [.nilptr, (.int .i64 (.ofNat 0)), (.bool false), (.int .i64 (.ofNat 0)), (.int .i64 (.ofNat 0)), (.int .i64 (.ofNat 0)), (.int .i64 (.ofNat 0)), (.int .i64 (.ofNat 0))] (fun tm => [(0, g3 tm)])) (put p4 (boxK 145 g4 (put p5 (mv g5 p2 (F82ret))))))))
theorem F82_eq (call round : Caller) (K : Nat) : funF T3 call round K 82 = F82 call round K := by kernel_rfl

/-! 83 revetment/mount.begin -/
def F83ret : CF := (retC T3 [.tmp 4, .cell 5 165, .tmp 6])
def F83j0 (call round : Caller) (K : Nat) : CF :=
  mv g7 p22 (callK call 137 (fun tm => [g22 tm]) (put p23 (mv g23 p21 (extrK 0 g21 (put p24 (extrK 1 g21 (put p25 (allocK [.nilslice, .nilslice, (.int .i64 (.ofNat 0))] 165 (put p9 (storeK 3 g9 g24 (dropS (mv g25 p8 (drawC (fun tm h => adraw T3 call round 29 (regOps T3 83 5) tm h) (F83ret))))))))))))))
def F83 (call round : Caller) (K : Nat) : FnT := funC 29 (boxK 23 g1 (put p3 (mv (constE .nilptr) p4 (allocK [.nilslice, .nilslice, (.int .i64 (.ofNat 0))] 165 (put p5 (mv (constE (.int .i64 (.ofNat 0))) p6 (drawC (fun tm h => adraw T3 call round 29 (regOps T3 83 1) tm h) (mv g8 p17 (intK gNeq (bin T3 .neq 36) g17 (constE (.int .i64 (.ofNat 0))) (put p18 (condC g18 (valK (buildV (nthPR [(0, 1), (1, 1), (2, 1)]) [.nilslice, .nilslice, (.int .i64 (.ofNat 0))] (fun tm => [])) (put p19 (mv g8 p20 (mv (constE .nilptr) p4 (storeK 3 g5 g19 (dropS (mv g20 p6 (F83ret)))))))) ((F83j0 call round K)))))))))))))
theorem F83_eq (call round : Caller) (K : Nat) : funF T3 call round K 83 = F83 call round K := by kernel_rfl

/-! 84 revetment/mount.latest -/
def F84ret : CF := (ret1 g2)
def F84j1 (call round : Caller) (K : Nat) (ih0 : CF) : CF :=
  intK gAdd (bin T3 .add 3) g28 (constE (.int .i64 (.ofNat 1))) (put p37 (mv g37 p28 (ih0)))
def F84j2 (call round : Caller) (K : Nat) (ih0 : CF) : CF :=
  ixSliK 5 g26 g28 (put p30 (loadNK 5 g30 (put p31 (allocK [(.int .i64 (.ofNat 0)), (.int .i64 (.ofNat 0)), (.int .i64 (.ofNat 0)), (.int .i64 (.ofNat 0)), .nilptr] 190 (put p7 (storeK 5 g7 g31 (dropS (mv g3 p32 (offK 1 g7 (put p33 (offK 2 g33 (put p34 (load1K g34 (put p35 (slowK (builtinM T3 .max #[3, 3] (fun tm => [g32 tm, g35 tm])) (put p36 (mv g36 p3 ((F84j1 call round K ih0)))))))))))))))))))
def F84b3 (call round : Caller) (K : Nat) (ih0 : CF) : CF :=
  intK gLss (bin T3 .lss 3) g28 g27 (put p29 (condC g29 ((F84j2 call round K ih0)) (mv g3 p38 (mv g38 p2 (F84ret)))))
def F84j4 (call round : Caller) (K : Nat) : CF :=
  offK 1 g1 (put p25 (load1K g25 (put p26 (lenK g26 (put p27 (mv (constE (.int .i64 (.ofNat 0))) p28 (loopC (F84b3 call round K) K)))))))
def F84j6 (call round : Caller) (K : Nat) (ih5 : CF) : CF :=
  intK gAdd (bin T3 .add 3) g11 (constE (.int .i64 (.ofNat 1))) (put p24 (mv g24 p11 (ih5)))
def F84j7 (call round : Caller) (K : Nat) (ih5 : CF) : CF :=
  ixSliK 51 g9 g11 (put p13 (loadNK 51 g13 (put p14 (allocK (List.replicate 7 (.int .i64 (.ofNat 0)) ++ List.replicate 44 (.int .u8 (.ofNat 0))) 237 (put p5 (storeK 51 g5 g14 (dropS (offK 2 g5 (put p15 (offK 0 g15 (put p16 (load1K g16 (put p17 (intK gLeq (bin T3 .leq 3) g17 (constE (.int .i64 (.ofNat 3))) (put p18 (condC g18 (mv g3 p19 (offK 2 g5 (put p20 (offK 4 g20 (put p21 (load1K g21 (put p22 (slowK (builtinM T3 .max #[3, 3] (fun tm => [g19 tm, g22 tm])) (put p23 (mv g23 p3 ((F84j6 call round K ih5)))))))))))) ((F84j6 call round K ih5))))))))))))))))))
def F84b8 (call round : Caller) (K : Nat) (ih5 : CF) : CF :=
  intK gLss (bin T3 .lss 3) g11 g10 (put p12 (condC g12 ((F84j7 call round K ih5)) ((F84j4 call round K))))
def F84 (call round : Caller) (K : Nat) : FnT := funC 39 (boxK 165 g0 (put p1 (mv (constE (.int .i64 (.ofNat 0))) p2 (mv (constE (.int .i64 (.ofNat 0))) p3 (offK 0 g1 (put p8 (load1K g8 (put p9 (lenK g9 (put p10 (mv (constE (.int .i64 (.ofNat 0))) p11 (loopC (F84b8 call round K) K))))))))))))
theorem F84_eq (call round : Caller) (K : Nat) : funF T3 call round K 84 = F84 call round K := by kernel_rfl

/-! 85 revetment/mount.part -/
def F85ret : CF := (ret1 g4)
def F85j0 (call round : Caller) (K : Nat) : CF :=
  mv (constE (.int .i64 (.ofNat 0))) p4 (F85ret)
def F85j2 (call round : Caller) (K : Nat) (ih1 : CF) : CF :=
  intK gAdd (bin T3 .add 3) g10 (constE (.int .i64 (.ofNat 1))) (put p39 (mv g39 p10 (ih1)))
def F85j3 (call round : Caller) (K : Nat) (ih1 : CF) : CF :=
  mv g7 p36 (intK gNeq (bin T3 .neq 36) g36 (constE (.int .i64 (.ofNat 0))) (put p37 (condC g37 (mv g7 p38 (mv g38 p4 (F85ret))) ((F85j2 call round K ih1)))))
def F85j4 (call round : Caller) (K : Nat) (ih1 : CF) : CF :=
  pickK g25 g31 (constE (.bool false)) (put p32 (mv g32 p22 (condC g22 (mv g0 p33 (mv g5 p34 (callK call 139 (fun tm => [g33 tm, g34 tm]) (put p35 (mv g35 p7 ((F85j3 call round K ih1))))))) (mv g0 p15 (mv g5 p16 (callK call 140 (fun tm => [g15 tm, g16 tm]) (put p17 (mv g17 p7 ((F85j3 call round K ih1))))))))))
def F85j5 (call round : Caller) (K : Nat) (ih1 : CF) : CF :=
  guardK (wantG o25 true) (intK gNeq (bin T3 .neq 3) g30 (constE (.int .i64 (.ofNat 0))) (put p31 ((F85j4 call round K ih1)))) (put p31 ((F85j4 call round K ih1)))
def F85j6 (call round : Caller) (K : Nat) (ih1 : CF) : CF :=
  guardK (wantG o25 true) (callK call 138 (fun tm => [g28 tm, g29 tm]) (put p30 ((F85j5 call round K ih1)))) (put p30 ((F85j5 call round K ih1)))
def F85j7 (call round : Caller) (K : Nat) (ih1 : CF) : CF :=
  guardK (wantG o25 true) (moveK g5 (put p29 ((F85j6 call round K ih1)))) (put p29 ((F85j6 call round K ih1)))
def F85j8 (call round : Caller) (K : Nat) (ih1 : CF) : CF :=
  guardK (wantG o25 true) (callK call 7 (fun tm => [g27 tm]) (put p28 ((F85j7 call round K ih1)))) (put p28 ((F85j7 call round K ih1)))
def F85j9 (call round : Caller) (K : Nat) (ih1 : CF) : CF :=
  guardK (wantG o25 true) (callK call 114 (fun tm => [g26 tm]) (put p27 ((F85j8 call round K ih1)))) (put p27 ((F85j8 call round K ih1)))
def F85j10 (call round : Caller) (K : Nat) (ih1 : CF) : CF :=
  mv g10 p12 (ixSliK 1 g8 g10 (put p13 (load1K g13 (put p14 (mv g12 p5 (mv g14 p6 (mv (constE (.int .i64 (.ofNat 0))) p7 (mv g0 p19 (mv g5 p20 (callK call 71 (fun tm => [g19 tm, g20 tm]) (put p21 (mv g21 p18 (condC g18 ((F85j3 call round K ih1)) (mv g6 p23 (intK gEql (bin T3 .eql 3) g23 (constE (.int .i64 (.ofNat 1))) (put p24 (mv g24 p25 (guardK (wantG o25 true) (moveK g0 (put p26 ((F85j9 call round K ih1)))) (put p26 ((F85j9 call round K ih1)))))))))))))))))))))
def F85b11 (call round : Caller) (K : Nat) (ih1 : CF) : CF :=
  intK gLss (bin T3 .lss 3) g10 g9 (put p11 (condC g11 ((F85j10 call round K ih1)) ((F85j0 call round K))))
def F85 (call round : Caller) (K : Nat) : FnT := funC 40 (mv (constE (.int .i64 (.ofNat 0))) p4 (mv g1 p8 (lenK g8 (put p9 (mv (constE (.int .i64 (.ofNat 0))) p10 (loopC (F85b11 call round K) K))))))
theorem F85_eq (call round : Caller) (K : Nat) : funF T3 call round K 85 = F85 call round K := by kernel_rfl

/-! 86 revetment/area.New -/
def F86ret : CF := (ret1 g2)
def F86j1 (call round : Caller) (K : Nat) (ih0 : CF) : CF :=
  intK gAdd (bin T3 .add 3) g8 (constE (.int .i64 (.ofNat 1))) (put p17 (mv g17 p8 (ih0)))
def F86j2 (call round : Caller) (K : Nat) (ih0 : CF) : CF :=
  mv g8 p10 (mv g10 p4 (mv g3 p11 (mv g4 p12 (valK (buildV (nthPR [(0, 1), (1, 1)]) [(.int .i64 (.ofNat 0)), (.int .i64 (.ofNat 0))] (fun tm => [(0, (constE (.int .i64 (.negSucc 0))) tm), (1, (constE (.int .i64 (.negSucc 0))) tm)])) (put p13 (nilK g11 (put p14 (offK 1 g14 (put p15 (ixArrK 3 2 g15 g12 (put p16 (storeK 2 g16 g13 (dropS ((F86j1 call round K ih0)))))))))))))))
def F86b3 (call round : Caller) (K : Nat) (ih0 : CF) : CF :=
  intK gLss (bin T3 .lss 3) g8 (constE (.int .i64 (.ofNat 3))) (put p9 (condC g9 ((F86j2 call round K ih0)) (mv g3 p18 (mv g18 p2 (F86ret)))))
def F86 (call round : Caller) (K : Nat) : FnT := funC 19 (mv (constE .nilptr) p2 (mv g0 p5 (valK (buildV (nthPR [(0, 1), (1, 6)]) [.nilptr, (.int .i64 (.ofNat 0)), (.int .i64 (.ofNat 0)), (.int .i64 (.ofNat 0)), (.int .i64 (.ofNat 0)), (.int .i64 (.ofNat 0)), (.int .i64 (.ofNat 0))] (fun tm => [(0, g5 tm)])) (put p6 (boxK 243 g6 (put p7 (mv g7 p3 (mv (constE (.int .i64 (.ofNat 0))) p8 (loopC (F86b3 call round K) K)))))))))
theorem F86_eq (call round : Caller) (K : Nat) : funF T3 call round K 86 = F86 call round K := by kernel_rfl

/-! 87 (*revetment/pool.Pool).Take -/
def F87ret : CF := (ret2 g4 g5)
def F87j0 (call round : Caller) (K : Nat) : CF :=
  mv g0 p17 (nilK g17 (put p18 (offK 6 g18 (put p19 (load1K g19 (put p20 (mv g1 p21 (ixSliK 1 g20 g21 (put p22 (load1K g22 (put p23 (callK call 141 (fun tm => [g23 tm]) (put p24 (extrK 0 g24 (put p25 (extrK 1 g24 (put p26 (mv g25 p4 (mv g26 p5 (F87ret))))))))))))))))))))
def F87j1 (call round : Caller) (K : Nat) : CF :=
  pickK g8 (constE (.bool true)) g15 (put p16 (condC g16 (mv (constE (.int .i64 (.ofNat 0))) p4 (mv (constE (.int .i64 (.ofNat 13))) p5 (F87ret))) ((F87j0 call round K))))
def F87j2 (call round : Caller) (K : Nat) : CF :=
  guardK (wantG o8 false) (intK gGeq (bin T3 .geq 3) g9 g14 (put p15 ((F87j1 call round K)))) (put p15 ((F87j1 call round K)))
def F87j3 (call round : Caller) (K : Nat) : CF :=
  guardK (wantG o8 false) (lenK g13 (put p14 ((F87j2 call round K)))) (put p14 ((F87j2 call round K)))
def F87j4 (call round : Caller) (K : Nat) : CF :=
  guardK (wantG o8 false) (load1K g12 (put p13 ((F87j3 call round K)))) (put p13 ((F87j3 call round K)))
def F87j5 (call round : Caller) (K : Nat) : CF :=
  guardK (wantG o8 false) (offK 6 g11 (put p12 ((F87j4 call round K)))) (put p12 ((F87j4 call round K)))
def F87j6 (call round : Caller) (K : Nat) : CF :=
  guardK (wantG o8 false) (nilK g10 (put p11 ((F87j5 call round K)))) (put p11 ((F87j5 call round K)))
def F87j7 (call round : Caller) (K : Nat) : CF :=
  guardK (wantG o8 false) (moveK g0 (put p10 ((F87j6 call round K)))) (put p10 ((F87j6 call round K)))
def F87 (call round : Caller) (K : Nat) : FnT := funC 27 (mv (constE (.int .i64 (.ofNat 0))) p4 (mv (constE (.int .i64 (.ofNat 0))) p5 (mv g1 p6 (intK gLss (bin T3 .lss 3) g6 (constE (.int .i64 (.ofNat 0))) (put p7 (mv g7 p8 (guardK (wantG o8 false) (moveK g1 (put p9 ((F87j7 call round K)))) (put p9 ((F87j7 call round K))))))))))
theorem F87_eq (call round : Caller) (K : Nat) : funF T3 call round K 87 = F87 call round K := by kernel_rfl

/-! 88 (*revetment/area.Areas).Set -/
def F88ret : CF := (ret1 g8)
def F88j0 (call round : Caller) (K : Nat) : CF :=
  mv g0 p35 (mv g1 p36 (mv g2 p37 (mv g3 p38 (valK (buildV (nthPR [(0, 1), (1, 1)]) [(.int .i64 (.ofNat 0)), (.int .i64 (.ofNat 0))] (fun tm => [(0, g37 tm), (1, g38 tm)])) (put p39 (nilK g35 (put p40 (offK 1 g40 (put p41 (ixArrK 3 2 g41 g36 (put p42 (storeK 2 g42 g39 (dropS (mv (constE (.int .i64 (.ofNat 0))) p8 (F88ret)))))))))))))))
def F88j1 (call round : Caller) (K : Nat) : CF :=
  pickK g26 (constE (.bool true)) g33 (put p34 (condC g34 (mv (constE (.int .i64 (.ofNat 13))) p8 (F88ret)) ((F88j0 call round K))))
def F88j2 (call round : Caller) (K : Nat) : CF :=
  guardK (wantG o26 false) (pickK g30 g32 (constE (.bool false)) (put p33 ((F88j1 call round K)))) (put p33 ((F88j1 call round K)))
def F88j3 (call round : Caller) (K : Nat) : CF :=
  guardK (wantG o30 true) (intK gNeq (bin T3 .neq 3) g31 (constE (.int .i64 (.negSucc 0))) (put p32 ((F88j2 call round K)))) (put p32 ((F88j2 call round K)))
def F88j4 (call round : Caller) (K : Nat) : CF :=
  guardK (wantG o30 true) (moveK g2 (put p31 ((F88j3 call round K)))) (put p31 ((F88j3 call round K)))
def F88j5 (call round : Caller) (K : Nat) : CF :=
  guardK (wantG o26 false) (moveK g29 (put p30 ((F88j4 call round K)))) (put p30 ((F88j4 call round K)))
def F88j6 (call round : Caller) (K : Nat) : CF :=
  guardK (wantG o26 false) (intK gEql (bin T3 .eql 3) g27 g28 (put p29 ((F88j5 call round K)))) (put p29 ((F88j5 call round K)))
def F88j7 (call round : Caller) (K : Nat) : CF :=
  guardK (wantG o26 false) (moveK g3 (put p28 ((F88j6 call round K)))) (put p28 ((F88j6 call round K)))
def F88j8 (call round : Caller) (K : Nat) : CF :=
  pickK g19 (constE (.bool true)) g24 (put p25 (mv g25 p26 (guardK (wantG o26 false) (moveK g2 (put p27 ((F88j7 call round K)))) (put p27 ((F88j7 call round K))))))
def F88j9 (call round : Caller) (K : Nat) : CF :=
  guardK (wantG o19 false) (notK g23 (put p24 ((F88j8 call round K)))) (put p24 ((F88j8 call round K)))
def F88j10 (call round : Caller) (K : Nat) : CF :=
  guardK (wantG o19 false) (callK call 143 (fun tm => [g20 tm, g21 tm, g22 tm]) (put p23 ((F88j9 call round K)))) (put p23 ((F88j9 call round K)))
def F88j11 (call round : Caller) (K : Nat) : CF :=
  guardK (wantG o19 false) (moveK g3 (put p22 ((F88j10 call round K)))) (put p22 ((F88j10 call round K)))
def F88j12 (call round : Caller) (K : Nat) : CF :=
  guardK (wantG o19 false) (moveK g1 (put p21 ((F88j11 call round K)))) (put p21 ((F88j11 call round K)))
def F88j13 (call round : Caller) (K : Nat) : CF :=
  pickK g12 (constE (.bool true)) g17 (put p18 (mv g18 p19 (guardK (wantG o19 false) (moveK g0 (put p20 ((F88j12 call round K)))) (put p20 ((F88j12 call round K))))))
def F88j14 (call round : Caller) (K : Nat) : CF :=
  guardK (wantG o12 false) (notK g16 (put p17 ((F88j13 call round K)))) (put p17 ((F88j13 call round K)))
def F88j15 (call round : Caller) (K : Nat) : CF :=
  guardK (wantG o12 false) (callK call 143 (fun tm => [g13 tm, g14 tm, g15 tm]) (put p16 ((F88j14 call round K)))) (put p16 ((F88j14 call round K)))
def F88j16 (call round : Caller) (K : Nat) : CF :=
  guardK (wantG o12 false) (moveK g2 (put p15 ((F88j15 call round K)))) (put p15 ((F88j15 call round K)))
def F88j17 (call round : Caller) (K : Nat) : CF :=
  guardK (wantG o12 false) (moveK g1 (put p14 ((F88j16 call round K)))) (put p14 ((F88j16 call round K)))
def F88 (call round : Caller) (K : Nat) : FnT := funC 43 (mv (constE (.int .i64 (.ofNat 0))) p8 (mv g1 p9 (callK call 142 (fun tm => [g9 tm]) (put p10 (notK g10 (put p11 (mv g11 p12 (guardK (wantG o12 false) (moveK g0 (put p13 ((F88j17 call round K)))) (put p13 ((F88j17 call round K)))))))))))
theorem F88_eq (call round : Caller) (K : Nat) : funF T3 call round K 88 = F88 call round K := by kernel_rfl

/-! 89 revetment/bmap.New -/
def F89ret : CF := (ret2 g2 g3)
def F89j0 (call round : Caller) (K : Nat) : CF :=
  drawC (fun tm h => adraw T3 call round 16 (regOps T3 89 3) tm h) (F89ret)
def F89 (call round : Caller) (K : Nat) : FnT := funC 16 (boxK 23 g0 (put p1 (mv (constE .nilptr) p2 (mv (constE (.int .i64 (.ofNat 0))) p3 (loadNK 6 g1 (put p4 (callK call 74 (fun tm => [g4 tm]) (put p5 (notK g5 (put p6 (condC g6 (mv (constE .nilptr) p2 (mv (constE (.int .i64 (.ofNat 20))) p3 (F89ret))) ((F89j0 call round K)))))))))))))
theorem F89_eq (call round : Caller) (K : Nat) : funF T3 call round K 89 = F89 call round K := by kernel_rfl

/-! 90 revetment/core.New -/
def F90ret : CF := (ret1 g8)
def F90 (call round : Caller) (K : Nat) : FnT := funC 15 (boxK 86 g3 (put p7 (mv (constE .nilptr) p8 (mv g0 p9 (mv g1 p10 (mv g2 p11 (loadNK 3 g7 (put p12 (valK (buildV (nthPR [(0, 1), (1, 1), (2, 1), (3, 3), (6, 1)]) [.nilptr, .nilptr, .nilptr, (.int .i64 (.ofNat 0)), (.int .i64 (.ofNat 0)), (.int .i64 (.ofNat 0)), (.bool false)] (fun tm => [(0, g9 tm), (1, g10 tm), (2, g11 tm), (3, g12 tm)])) (put p13 (boxK 129 g13 (put p14 (mv g14 p8 (F90ret))))))))))))))
theorem F90_eq (call round : Caller) (K : Nat) : funF T3 call round K 90 = F90 call round K := by kernel_rfl

/-! 91 revetment/mount.newest -/
def F91ret : CF := (ret1 g2)
def F91j1 (call round : Caller) (K : Nat) (ih0 : CF) : CF :=
  intK gAdd (bin T3 .add 3) g8 (constE (.int .i64 (.ofNat 1))) (put p17 (mv g17 p8 (ih0)))
def F91j2 (call round : Caller) (K : Nat) (ih0 : CF) : CF :=
  ixSliK 5 g6 g8 (put p10 (loadNK 5 g10 (put p11 (allocK [(.int .i64 (.ofNat 0)), (.int .i64 (.ofNat 0)), (.int .i64 (.ofNat 0)), (.int .i64 (.ofNat 0)), .nilptr] 190 (put p5 (storeK 5 g5 g11 (dropS (mv g3 p12 (offK 1 g5 (put p13 (offK 0 g13 (put p14 (load1K g14 (put p15 (slowK (builtinM T3 .max #[3, 3] (fun tm => [g12 tm, g15 tm])) (put p16 (mv g16 p3 ((F91j1 call round K ih0)))))))))))))))))))
def F91b3 (call round : Caller) (K : Nat) (ih0 : CF) : CF :=
  intK gLss (bin T3 .lss 3) g8 g7 (put p9 (condC g9 ((F91j2 call round K ih0)) (mv g3 p18 (mv g18 p2 (F91ret)))))
def F91 (call round : Caller) (K : Nat) : FnT := funC 19 (mv (constE (.int .i64 (.ofNat 0))) p2 (mv (constE (.int .i64 (.ofNat 0))) p3 (mv g0 p6 (lenK g6 (put p7 (mv (constE (.int .i64 (.ofNat 0))) p8 (loopC (F91b3 call round K) K)))))))
theorem F91_eq (call round : Caller) (K : Nat) : funF T3 call round K 91 = F91 call round K := by kernel_rfl

/-! 95 (*revetment/bmap.Map).Set -/
def F95ret : CF := (ret1 g6)
def F95j0 (call round : Caller) (K : Nat) : CF :=
  mv g0 p27 (loadNK 6 g7 (put p28 (callK call 147 (fun tm => [g27 tm, g28 tm, (constE (.int .i64 (.negSucc 0))) tm]) (put p29 (mv g0 p30 (loadNK 6 g5 (put p31 (callK call 147 (fun tm => [g30 tm, g31 tm, (constE (.int .i64 (.ofNat 1))) tm]) (put p32 (drawC (fun tm h => adraw T3 call round 40 (regOps T3 95 8) tm h) (mv (constE (.int .i64 (.ofNat 0))) p6 (F95ret))))))))))))
def F95 (call round : Caller) (K : Nat) : FnT := funC 40 (boxK 135 g2 (put p5 (mv (constE (.int .i64 (.ofNat 0))) p6 (mv g0 p10 (mv g1 p11 (callK call 104 (fun tm => [g10 tm, g11 tm]) (put p12 (mv g12 p9 (extrK 0 g9 (put p13 (extrK 1 g9 (put p14 (allocK [(.int .i64 (.ofNat 0)), (.int .i64 (.ofNat 0)), (.int .i64 (.ofNat 0)), (.int .i64 (.ofNat 0)), (.int .i64 (.ofNat 0)), (.int .i64 (.ofNat 0))] 135 (put p7 (storeK 6 g7 g13 (dropS (mv g14 p8 (mv g8 p16 (intK gNeq (bin T3 .neq 36) g16 (constE (.int .i64 (.ofNat 0))) (put p17 (mv g17 p15 (condC g15 (mv g8 p18 (mv g18 p6 (F95ret))) (drawC (fun tm h => adraw T3 call round 40 (regOps T3 95 4) tm h) (condC g19 (mv (constE (.int .i64 (.ofNat 10))) p6 (F95ret)) ((F95j0 call round K))))))))))))))))))))))))))
theorem F95_eq (call round : Caller) (K : Nat) : funF T3 call round K 95 = F95 call round K := by kernel_rfl

/-! 99 (*revetment/mirror.Mirror).Table -/
def F99ret : CF := (retC T3 [.cell 2 125])
def F99 (call round : Caller) (K : Nat) : FnT := funC 7 (allocK (List.replicate 256 (.int .u32 (.ofNat 0))) 125 (put p2 (mv g0 p3 (nilK g3 (put p4 (offK 7 g4 (put p5 (loadNK 256 g5 (put p6 (storeK 256 g2 g6 (dropS (F99ret))))))))))))
theorem F99_eq (call round : Caller) (K : Nat) : funF T3 call round K 99 = F99 call round K := by kernel_rfl

/-! 104 (*revetment/bmap.Map).Get -/
def F104ret : CF := (retC T3 [.cell 4 135, .tmp 5])
def F104j0 (call round : Caller) (K : Nat) : CF :=
  mv g0 p18 (nilK g18 (put p19 (offK 6 g19 (put p20 (load1K g20 (put p21 (mv g1 p22 (ixSliK 6 g21 g22 (put p23 (loadNK 6 g23 (put p24 (storeK 6 g4 g24 (dropS (mv (constE (.int .i64 (.ofNat 0))) p5 (F104ret)))))))))))))))
def F104j1 (call round : Caller) (K : Nat) : CF :=
  pickK g8 (constE (.bool true)) g15 (put p16 (condC g16 (valK (buildV (nthPR [(0, 1), (1, 1), (2, 1), (3, 1), (4, 1), (5, 1)]) [(.int .i64 (.ofNat 0)), (.int .i64 (.ofNat 0)), (.int .i64 (.ofNat 0)), (.int .i64 (.ofNat 0)), (.int .i64 (.ofNat 0)), (.int .i64 (.ofNat 0))] (fun tm => [])) (put p17 (storeK 6 g4 g17 (dropS (mv (constE (.int .i64 (.ofNat 13))) p5 (F104ret)))))) ((F104j0 call round K))))
def F104j2 (call round : Caller) (K : Nat) : CF :=
  guardK (wantG o8 false) (intK gGeq (bin T3 .geq 3) g9 g14 (put p15 ((F104j1 call round K)))) (put p15 ((F104j1 call round K)))
def F104j3 (call round : Caller) (K : Nat) : CF :=
  guardK (wantG o8 false) (lenK g13 (put p14 ((F104j2 call round K)))) (put p14 ((F104j2 call round K)))
def F104j4 (call round : Caller) (K : Nat) : CF :=
  guardK (wantG o8 false) (load1K g12 (put p13 ((F104j3 call round K)))) (put p13 ((F104j3 call round K)))
def F104j5 (call round : Caller) (K : Nat) : CF :=
  guardK (wantG o8 false) (offK 6 g11 (put p12 ((F104j4 call round K)))) (put p12 ((F104j4 call round K)))
def F104j6 (call round : Caller) (K : Nat) : CF :=
  guardK (wantG o8 false) (nilK g10 (put p11 ((F104j5 call round K)))) (put p11 ((F104j5 call round K)))
def F104j7 (call round : Caller) (K : Nat) : CF :=
  guardK (wantG o8 false) (moveK g0 (put p10 ((F104j6 call round K)))) (put p10 ((F104j6 call round K)))
def F104 (call round : Caller) (K : Nat) : FnT := funC 25 (allocK [(.int .i64 (.ofNat 0)), (.int .i64 (.ofNat 0)), (.int .i64 (.ofNat 0)), (.int .i64 (.ofNat 0)), (.int .i64 (.ofNat 0)), (.int .i64 (.ofNat 0))] 135 (put p4 (mv (constE (.int .i64 (.ofNat 0))) p5 (mv g1 p6 (intK gLss (bin T3 .lss 3) g6 (constE (.int .i64 (.ofNat 0))) (put p7 (mv g7 p8 (guardK (wantG o8 false) (moveK g1 (put p9 ((F104j7 call round K)))) (put p9 ((F104j7 call round K)))))))))))
theorem F104_eq (call round : Caller) (K : Nat) : funF T3 call round K 104 = F104 call round K := by kernel_rfl

/-! 108 revetment/zdev.within -/
def F108ret : CF := (ret1 g4)
def F108j0 (call round : Caller) (K : Nat) : CF :=
  pickK g7 g10 (constE (.bool false)) (put p11 (mv g11 p4 (F108ret)))
def F108j1 (call round : Caller) (K : Nat) : CF :=
  guardK (wantG o7 true) (intK gLeq (bin T3 .leq 3) g8 g9 (put p10 ((F108j0 call round K)))) (put p10 ((F108j0 call round K)))
def F108j2 (call round : Caller) (K : Nat) : CF :=
  guardK (wantG o7 true) (moveK g1 (put p9 ((F108j1 call round K)))) (put p9 ((F108j1 call round K)))
def F108 (call round : Caller) (K : Nat) : FnT := funC 12 (mv (constE (.bool false)) p4 (mv g0 p5 (intK gGeq (bin T3 .geq 3) g5 (constE (.int .i64 (.ofNat 1))) (put p6 (mv g6 p7 (guardK (wantG o7 true) (moveK g0 (put p8 ((F108j2 call round K)))) (put p8 ((F108j2 call round K)))))))))
theorem F108_eq (call round : Caller) (K : Nat) : funF T3 call round K 108 = F108 call round K := by kernel_rfl

/-! 109 revetment/zone.New[revetment/frame.Sector] -/
def F109ret : CF := (ret2 g2 g3)
def F109j0 (call round : Caller) (K : Nat) : CF :=
  mv g0 p10 (valK (buildV (nthPR [(0, 1), (1, 1), (2, 1), (3, 1), (4, 1)]) [.nilslice, (.int .i64 (.ofNat 0)), (.int .i64 (.ofNat 0)), (.int .i64 (.ofNat 0)), (.bool false)] (fun tm => [(1, g10 tm)])) (put p11 (boxK 277 g11 (put p12 (mv g12 p2 (mv (constE (.int .i64 (.ofNat 0))) p3 (F109ret)))))))
def F109j1 (call round : Caller) (K : Nat) : CF :=
  pickK g6 (constE (.bool true)) g8 (put p9 (condC g9 (mv (constE .nilptr) p2 (mv (constE (.int .i64 (.ofNat 13))) p3 (F109ret))) ((F109j0 call round K))))
def F109j2 (call round : Caller) (K : Nat) : CF :=
  guardK (wantG o6 false) (intK gGtr (bin T3 .gtr 3) g7 (constE (.int .i64 (.ofNat 64))) (put p8 ((F109j1 call round K)))) (put p8 ((F109j1 call round K)))
def F109 (call round : Caller) (K : Nat) : FnT := funC 13 (mv (constE .nilptr) p2 (mv (constE (.int .i64 (.ofNat 0))) p3 (mv g0 p4 (intK gLss (bin T3 .lss 3) g4 (constE (.int .i64 (.ofNat 1))) (put p5 (mv g5 p6 (guardK (wantG o6 false) (moveK g0 (put p7 ((F109j2 call round K)))) (put p7 ((F109j2 call round K))))))))))
theorem F109_eq (call round : Caller) (K : Nat) : funF T3 call round K 109 = F109 call round K := by kernel_rfl

/-! 110 revetment/pool.New -/
def F110ret : CF := (ret2 g2 g3)
def F110j0 (call round : Caller) (K : Nat) : CF :=
  mv g4 p37 (mv g37 p2 (mv (constE (.int .i64 (.ofNat 0))) p3 (F110ret)))
def F110j2 (call round : Caller) (K : Nat) (ih1 : CF) : CF :=
  intK gAdd (bin T3 .add 3) g15 (constE (.int .i64 (.ofNat 1))) (put p36 (mv g36 p15 (ih1)))
def F110j3 (call round : Caller) (K : Nat) (ih1 : CF) : CF :=
  mv g4 p26 (mv g4 p27 (nilK g27 (put p28 (offK 6 g28 (put p29 (load1K g29 (put p30 (mv g5 p31 (slowK (buildSliceM [.nilptr] 141 1 1 (fun tm => [(0, g31 tm)])) (put p32 (slowK (appendM 141 1 g30 g32) (put p33 (nilK g26 (put p34 (offK 6 g34 (put p35 (storeK 1 g35 g33 (dropS ((F110j2 call round K ih1))))))))))))))))))))
def F110j4 (call round : Caller) (K : Nat) (ih1 : CF) : CF :=
  offK 1 g1 (put p18 (load1K g18 (put p19 (callK call 163 (fun tm => [g19 tm]) (put p20 (mv g20 p17 (extrK 0 g17 (put p21 (extrK 1 g17 (put p22 (mv g21 p5 (mv g22 p6 (mv g6 p23 (intK gNeq (bin T3 .neq 36) g23 (constE (.int .i64 (.ofNat 0))) (put p24 (condC g24 (mv g6 p25 (mv (constE .nilptr) p2 (mv g25 p3 (F110ret)))) ((F110j3 call round K ih1))))))))))))))))))
def F110b5 (call round : Caller) (K : Nat) (ih1 : CF) : CF :=
  intK gLss (bin T3 .lss 3) g15 g14 (put p16 (condC g16 ((F110j4 call round K ih1)) ((F110j0 call round K))))
def F110j6 (call round : Caller) (K : Nat) : CF :=
  loadNK 6 g1 (put p10 (valK (buildV (nthPR [(0, 6), (6, 1)]) [(.int .i64 (.ofNat 0)), (.int .i64 (.ofNat 0)), (.int .i64 (.ofNat 0)), (.int .i64 (.ofNat 0)), (.int .i64 (.ofNat 0)), (.int .i64 (.ofNat 0)), .nilslice] (fun tm => [(0, g10 tm)])) (put p11 (boxK 140 g11 (put p12 (mv g12 p4 (offK 0 g1 (put p13 (load1K g13 (put p14 (mv (constE (.int .i64 (.ofNat 0))) p15 (loopC (F110b5 call round K) K))))))))))))
def F110 (call round : Caller) (K : Nat) : FnT := funC 38 (boxK 23 g0 (put p1 (mv (constE .nilptr) p2 (mv (constE (.int .i64 (.ofNat 0))) p3 (loadNK 6 g1 (put p7 (callK call 74 (fun tm => [g7 tm]) (put p8 (notK g8 (put p9 (condC g9 (mv (constE .nilptr) p2 (mv (constE (.int .i64 (.ofNat 20))) p3 (F110ret))) ((F110j6 call round K)))))))))))))
theorem F110_eq (call round : Caller) (K : Nat) : funF T3 call round K 110 = F110 call round K := by kernel_rfl

end
end Go.Ev
