/- Functions as combinators; printed by Gen.lean. -/
import Derived.Test.YtkafbbedaofkhaaGreatFa
set_option linter.unusedVariables false
set_option linter.unusedSimpArgs false
set_option linter.unusedSectionVars false
namespace Go.Ev
open Go.Proofs
set_option maxRecDepth 100000
noncomputable section
/-! 111 (*revetment/zdev.Device).Zones -/
def F111ret : CF := (ret1 g2)
def F111 (call round : Caller) (K : Nat) : FnT := funC 8 (mv (constE (.int .i64 (.ofNat 0))) p2 (mv g0 p3 (nilK g3 (put p4 (offK 0 g4 (put p5 (load1K g5 (put p6 (lenK g6 (put p7 (mv g7 p2 (F111ret))))))))))))
theorem F111_eq (call round : Caller) (K : Nat) : funF T3 call round K 111 = F111 call round K := by kernel_rfl

/-! 112 (*revetment/zdev.Device).Size -/
def F112ret : CF := (ret1 g2)
def F112 (call round : Caller) (K : Nat) : FnT := funC 7 (mv (constE (.int .i64 (.ofNat 0))) p2 (mv g0 p3 (nilK g3 (put p4 (offK 1 g4 (put p5 (load1K g5 (put p6 (mv g6 p2 (F112ret))))))))))
theorem F112_eq (call round : Caller) (K : Nat) : funF T3 call round K 112 = F112 call round K := by kernel_rfl

/-! 114 (*revetment/mirror.Mirror).Drive -/
def F114ret : CF := (ret1 g2)
def F114 (call round : Caller) (K : Nat) : FnT := funC 7 (mv (constE .nilptr) p2 (mv g0 p3 (nilK g3 (put p4 (offK 0 g4 (put p5 (load1K g5 (put p6 (mv g6 p2 (F114ret))))))))))
theorem F114_eq (call round : Caller) (K : Nat) : funF T3 call round K 114 = F114 call round K := by kernel_rfl

/-! 115 (*revetment/plan.Drive).Flush -/
def F115ret : CF := (ret1 g2)
def F115 (call round : Caller) (K : Nat) : FnT := funC 10 (mv (constE (.int .i64 (.ofNat 0))) p2 (mv g0 p3 (callK call 164 (fun tm => [g3 tm]) (put p4 (mv g0 p5 (nilK g5 (put p6 (offK 0 g6 (put p7 (load1K g7 (put p8 (callK call 165 (fun tm => [g8 tm]) (put p9 (mv g9 p2 (F115ret)))))))))))))))
theorem F115_eq (call round : Caller) (K : Nat) : funF T3 call round K 115 = F115 call round K := by kernel_rfl

/-! 116 (*revetment/area.Areas).Write -/
def F116ret : CF := (ret2 g4 g5)
def F116j0 (call round : Caller) (K : Nat) : CF :=
  mv g6 p54 (mv g54 p4 (mv (constE (.int .i64 (.ofNat 0))) p5 (F116ret)))
def F116j1 (call round : Caller) (K : Nat) : CF :=
  mv g6 p51 (intK gLss (bin T3 .lss 3) g51 (constE (.int .i64 (.ofNat 2))) (put p52 (condC g52 (mv g6 p53 (mv g53 p4 (mv (constE (.int .i64 (.ofNat 40))) p5 (F116ret)))) ((F116j0 call round K)))))
def F116j2 (call round : Caller) (K : Nat) : CF :=
  mv g0 p42 (nilK g42 (put p43 (offK 0 g43 (put p44 (load1K g44 (put p45 (callK call 114 (fun tm => [g45 tm]) (put p46 (callK call 115 (fun tm => [g46 tm]) (put p47 (mv g47 p10 (mv g10 p48 (intK gNeq (bin T3 .neq 36) g48 (constE (.int .i64 (.ofNat 0))) (put p49 (condC g49 (mv g10 p50 (mv (constE (.int .i64 (.ofNat 0))) p4 (mv g50 p5 (F116ret)))) ((F116j1 call round K)))))))))))))))))
def F116j4 (call round : Caller) (K : Nat) (ih3 : CF) : CF :=
  intK gAdd (bin T3 .add 3) g25 (constE (.int .i64 (.ofNat 1))) (put p41 (mv g41 p25 (ih3)))
def F116j5 (call round : Caller) (K : Nat) (ih3 : CF) : CF :=
  mv g8 p38 (condC g38 (mv g6 p39 (intK gAdd (bin T3 .add 3) g39 (constE (.int .i64 (.ofNat 1))) (put p40 (mv g40 p6 ((F116j4 call round K ih3)))))) ((F116j4 call round K ih3)))
def F116j6 (call round : Caller) (K : Nat) (ih3 : CF) : CF :=
  mv g25 p27 (mv g27 p7 (mv g0 p29 (mv g7 p30 (loadNK 4 g3 (put p31 (callK call 166 (fun tm => [g29 tm, g30 tm, g31 tm]) (put p32 (mv g32 p28 (extrK 0 g28 (put p33 (extrK 1 g28 (put p34 (mv g33 p8 (mv g34 p9 (mv g9 p35 (intK gNeq (bin T3 .neq 36) g35 (constE (.int .i64 (.ofNat 0))) (put p36 (condC g36 (mv g9 p37 (mv (constE (.int .i64 (.ofNat 0))) p4 (mv g37 p5 (F116ret)))) ((F116j5 call round K ih3))))))))))))))))))))
def F116b7 (call round : Caller) (K : Nat) (ih3 : CF) : CF :=
  intK gLss (bin T3 .lss 3) g25 (constE (.int .i64 (.ofNat 3))) (put p26 (condC g26 ((F116j6 call round K ih3)) ((F116j2 call round K))))
def F116j8 (call round : Caller) (K : Nat) : CF :=
  mv (constE (.int .i64 (.ofNat 0))) p6 (mv (constE (.int .i64 (.ofNat 0))) p25 (loopC (F116b7 call round K) K))
def F116 (call round : Caller) (K : Nat) : FnT := funC 55 (boxK 188 g1 (put p3 (mv (constE (.int .i64 (.ofNat 0))) p4 (mv (constE (.int .i64 (.ofNat 0))) p5 (drawC (fun tm h => adraw T3 call round 55 (regOps T3 116 1) tm h) (condC g24 (mv (constE (.int .i64 (.ofNat 0))) p4 (mv (constE (.int .i64 (.ofNat 10))) p5 (F116ret))) ((F116j8 call round K))))))))
theorem F116_eq (call round : Caller) (K : Nat) : funF T3 call round K 116 = F116 call round K := by kernel_rfl

/-! 117 (*revetment/core.Core).dead -/
def F117ret : CF := (ret1 g4)
def F117j0 (call round : Caller) (K : Nat) : CF :=
  pickK g8 g15 (constE (.bool false)) (put p16 (mv g16 p4 (F117ret)))
def F117j1 (call round : Caller) (K : Nat) : CF :=
  guardK (wantG o8 true) (intK gEql (bin T3 .eql 3) g14 (constE (.int .i64 (.ofNat 0))) (put p15 ((F117j0 call round K)))) (put p15 ((F117j0 call round K)))
def F117j2 (call round : Caller) (K : Nat) : CF :=
  guardK (wantG o8 true) (callK call 81 (fun tm => [g12 tm, g13 tm]) (put p14 ((F117j1 call round K)))) (put p14 ((F117j1 call round K)))
def F117j3 (call round : Caller) (K : Nat) : CF :=
  guardK (wantG o8 true) (moveK g1 (put p13 ((F117j2 call round K)))) (put p13 ((F117j2 call round K)))
def F117j4 (call round : Caller) (K : Nat) : CF :=
  guardK (wantG o8 true) (load1K g11 (put p12 ((F117j3 call round K)))) (put p12 ((F117j3 call round K)))
def F117j5 (call round : Caller) (K : Nat) : CF :=
  guardK (wantG o8 true) (offK 2 g10 (put p11 ((F117j4 call round K)))) (put p11 ((F117j4 call round K)))
def F117j6 (call round : Caller) (K : Nat) : CF :=
  guardK (wantG o8 true) (nilK g9 (put p10 ((F117j5 call round K)))) (put p10 ((F117j5 call round K)))
def F117 (call round : Caller) (K : Nat) : FnT := funC 17 (mv (constE (.bool false)) p4 (mv g0 p5 (mv g1 p6 (callK call 167 (fun tm => [g5 tm, g6 tm]) (put p7 (mv g7 p8 (guardK (wantG o8 true) (moveK g0 (put p9 ((F117j6 call round K)))) (put p9 ((F117j6 call round K))))))))))
theorem F117_eq (call round : Caller) (K : Nat) : funF T3 call round K 117 = F117 call round K := by kernel_rfl

/-! 122 (*revetment/bmap.Map).Geom -/
def F122ret : CF := (retC T3 [.cell 2 23])
def F122 (call round : Caller) (K : Nat) : FnT := funC 7 (allocK [(.int .i64 (.ofNat 0)), (.int .i64 (.ofNat 0)), (.int .i64 (.ofNat 0)), (.int .i64 (.ofNat 0)), (.int .i64 (.ofNat 0)), (.int .i64 (.ofNat 0))] 23 (put p2 (mv g0 p3 (nilK g3 (put p4 (offK 0 g4 (put p5 (loadNK 6 g5 (put p6 (storeK 6 g2 g6 (dropS (F122ret))))))))))))
theorem F122_eq (call round : Caller) (K : Nat) : funF T3 call round K 122 = F122 call round K := by kernel_rfl

/-! 126 (revetment/geom.Geom).Domain -/
def F126ret : CF := (ret1 g4)
def F126j0 (call round : Caller) (K : Nat) : CF :=
  mv g1 p13 (offK 1 g2 (put p14 (load1K g14 (put p15 (binK (bin T3 .quo 3) g13 g15 (put p16 (mv g16 p4 (F126ret))))))))
def F126j1 (call round : Caller) (K : Nat) : CF :=
  pickK g7 (constE (.bool true)) g11 (put p12 (condC g12 (mv (constE (.int .i64 (.negSucc 0))) p4 (F126ret)) ((F126j0 call round K))))
def F126j2 (call round : Caller) (K : Nat) : CF :=
  guardK (wantG o7 false) (intK gGeq (bin T3 .geq 3) g8 g10 (put p11 ((F126j1 call round K)))) (put p11 ((F126j1 call round K)))
def F126j3 (call round : Caller) (K : Nat) : CF :=
  guardK (wantG o7 false) (callK call 24 (fun tm => [g9 tm]) (put p10 ((F126j2 call round K)))) (put p10 ((F126j2 call round K)))
def F126j4 (call round : Caller) (K : Nat) : CF :=
  guardK (wantG o7 false) (loadNK 6 g2 (put p9 ((F126j3 call round K)))) (put p9 ((F126j3 call round K)))
def F126 (call round : Caller) (K : Nat) : FnT := funC 17 (boxK 23 g0 (put p2 (mv (constE (.int .i64 (.ofNat 0))) p4 (mv g1 p5 (intK gLss (bin T3 .lss 3) g5 (constE (.int .i64 (.ofNat 0))) (put p6 (mv g6 p7 (guardK (wantG o7 false) (moveK g1 (put p8 ((F126j4 call round K)))) (put p8 ((F126j4 call round K)))))))))))
theorem F126_eq (call round : Caller) (K : Nat) : funF T3 call round K 126 = F126 call round K := by kernel_rfl

/-! 128 (revetment/geom.Geom).small -/
def F128ret : CF := (ret1 g2)
def F128j0 (call round : Caller) (K : Nat) : CF :=
  pickK g26 g29 (constE (.bool false)) (put p30 (mv g30 p2 (F128ret)))
def F128j1 (call round : Caller) (K : Nat) : CF :=
  guardK (wantG o26 true) (callK call 176 (fun tm => [g28 tm, (constE (.int .i64 (.ofNat 4))) tm, (constE (.int .i64 (.ofNat 64))) tm]) (put p29 ((F128j0 call round K)))) (put p29 ((F128j0 call round K)))
def F128j2 (call round : Caller) (K : Nat) : CF :=
  guardK (wantG o26 true) (load1K g27 (put p28 ((F128j1 call round K)))) (put p28 ((F128j1 call round K)))
def F128j3 (call round : Caller) (K : Nat) : CF :=
  pickK g21 g24 (constE (.bool false)) (put p25 (mv g25 p26 (guardK (wantG o26 true) (offK 5 g1 (put p27 ((F128j2 call round K)))) (put p27 ((F128j2 call round K))))))
def F128j4 (call round : Caller) (K : Nat) : CF :=
  guardK (wantG o21 true) (callK call 176 (fun tm => [g23 tm, (constE (.int .i64 (.ofNat 0))) tm, (constE (.int .i64 (.ofNat 4))) tm]) (put p24 ((F128j3 call round K)))) (put p24 ((F128j3 call round K)))
def F128j5 (call round : Caller) (K : Nat) : CF :=
  guardK (wantG o21 true) (load1K g22 (put p23 ((F128j4 call round K)))) (put p23 ((F128j4 call round K)))
def F128j6 (call round : Caller) (K : Nat) : CF :=
  pickK g16 g19 (constE (.bool false)) (put p20 (mv g20 p21 (guardK (wantG o21 true) (offK 4 g1 (put p22 ((F128j5 call round K)))) (put p22 ((F128j5 call round K))))))
def F128j7 (call round : Caller) (K : Nat) : CF :=
  guardK (wantG o16 true) (callK call 176 (fun tm => [g18 tm, (constE (.int .i64 (.ofNat 1))) tm, (constE (.int .i64 (.ofNat 256))) tm]) (put p19 ((F128j6 call round K)))) (put p19 ((F128j6 call round K)))
def F128j8 (call round : Caller) (K : Nat) : CF :=
  guardK (wantG o16 true) (load1K g17 (put p18 ((F128j7 call round K)))) (put p18 ((F128j7 call round K)))
def F128j9 (call round : Caller) (K : Nat) : CF :=
  pickK g11 g14 (constE (.bool false)) (put p15 (mv g15 p16 (guardK (wantG o16 true) (offK 3 g1 (put p17 ((F128j8 call round K)))) (put p17 ((F128j8 call round K))))))
def F128j10 (call round : Caller) (K : Nat) : CF :=
  guardK (wantG o11 true) (callK call 176 (fun tm => [g13 tm, (constE (.int .i64 (.ofNat 4))) tm, (constE (.int .i64 (.ofNat 64))) tm]) (put p14 ((F128j9 call round K)))) (put p14 ((F128j9 call round K)))
def F128j11 (call round : Caller) (K : Nat) : CF :=
  guardK (wantG o11 true) (load1K g12 (put p13 ((F128j10 call round K)))) (put p13 ((F128j10 call round K)))
def F128j12 (call round : Caller) (K : Nat) : CF :=
  pickK g6 g9 (constE (.bool false)) (put p10 (mv g10 p11 (guardK (wantG o11 true) (offK 2 g1 (put p12 ((F128j11 call round K)))) (put p12 ((F128j11 call round K))))))
def F128j13 (call round : Caller) (K : Nat) : CF :=
  guardK (wantG o6 true) (callK call 176 (fun tm => [g8 tm, (constE (.int .i64 (.ofNat 1))) tm, (constE (.int .i64 (.ofNat 64))) tm]) (put p9 ((F128j12 call round K)))) (put p9 ((F128j12 call round K)))
def F128j14 (call round : Caller) (K : Nat) : CF :=
  guardK (wantG o6 true) (load1K g7 (put p8 ((F128j13 call round K)))) (put p8 ((F128j13 call round K)))
def F128 (call round : Caller) (K : Nat) : FnT := funC 31 (boxK 23 g0 (put p1 (mv (constE (.bool false)) p2 (offK 0 g1 (put p3 (load1K g3 (put p4 (callK call 176 (fun tm => [g4 tm, (constE (.int .i64 (.ofNat 3))) tm, (constE (.int .i64 (.ofNat 8))) tm]) (put p5 (mv g5 p6 (guardK (wantG o6 true) (offK 1 g1 (put p7 ((F128j14 call round K)))) (put p7 ((F128j14 call round K))))))))))))))
theorem F128_eq (call round : Caller) (K : Nat) : funF T3 call round K 128 = F128 call round K := by kernel_rfl

/-! 129 (revetment/geom.Geom).Parts -/
def F129ret : CF := (ret1 g2)
def F129 (call round : Caller) (K : Nat) : FnT := funC 9 (boxK 23 g0 (put p1 (mv (constE (.int .i64 (.ofNat 0))) p2 (offK 3 g1 (put p3 (load1K g3 (put p4 (intK gAdd (bin T3 .add 3) g4 (constE (.int .i64 (.ofNat 2))) (put p5 (intK gSub (bin T3 .sub 3) g5 (constE (.int .i64 (.ofNat 1))) (put p6 (binK (bin T3 .quo 3) g6 (constE (.int .i64 (.ofNat 2))) (put p7 (intK gAdd (bin T3 .add 3) (constE (.int .i64 (.ofNat 1))) g7 (put p8 (mv g8 p2 (F129ret)))))))))))))))))
theorem F129_eq (call round : Caller) (K : Nat) : funF T3 call round K 129 = F129 call round K := by kernel_rfl

/-! 130 (revetment/geom.Geom).Segments -/
def F130ret : CF := (ret1 g2)
def F130 (call round : Caller) (K : Nat) : FnT := funC 40 (boxK 23 g0 (put p1 (mv (constE (.int .i64 (.ofNat 0))) p2 (drawC (fun tm h => adraw T3 call round 40 (regOps T3 130 1) tm h) (offK 0 g1 (put p14 (load1K g14 (put p15 (intK gSub (bin T3 .sub 3) g15 (constE (.int .i64 (.ofNat 1))) (put p16 (mv g3 p17 (intK gMul (bin T3 .mul 3) g16 g17 (put p18 (mv g4 p19 (intK gSub (bin T3 .sub 3) g18 g19 (put p20 (intK gAdd (bin T3 .add 3) g20 (constE (.int .i64 (.ofNat 1))) (put p21 (offK 0 g1 (put p22 (load1K g22 (put p23 (mv g3 p24 (intK gMul (bin T3 .mul 3) g23 g24 (put p25 (mv g4 p26 (intK gMul (bin T3 .mul 3) (constE (.int .i64 (.ofNat 2))) g26 (put p27 (intK gSub (bin T3 .sub 3) g25 g27 (put p28 (intK gAdd (bin T3 .add 3) g28 (constE (.int .i64 (.ofNat 1))) (put p29 (slowK (builtinM T3 .min #[3, 3] (fun tm => [g21 tm, g29 tm])) (put p30 (mv g30 p5 (mv g5 p31 (binK (bin T3 .shr 3) g31 (constE (.int .u64 (.ofNat 1))) (put p32 (intK gSub (bin T3 .sub 3) g32 (constE (.int .i64 (.ofNat 1))) (put p33 (offK 0 g1 (put p34 (load1K g34 (put p35 (offK 4 g1 (put p36 (load1K g36 (put p37 (intK gMul (bin T3 .mul 3) g35 g37 (put p38 (intK gSub (bin T3 .sub 3) g33 g38 (put p39 (mv g39 p2 (F130ret))))))))))))))))))))))))))))))))))))))))))))))))))))))
theorem F130_eq (call round : Caller) (K : Nat) : funF T3 call round K 130 = F130 call round K := by kernel_rfl

/-! 131 (*revetment/machine.Machine).Do -/
def F131ret : CF := (retC T3 [.cell 4 217])
def F131j0 (call round : Caller) (K : Nat) : CF :=
  mv g0 p53 (nilK g53 (put p54 (offK 15 g54 (put p55 (storeK 1 g55 (constE (.bool true)) (dropS (mv g0 p57 (loadNK 73 g3 (put p58 (callK call 179 (fun tm => [g57 tm, g58 tm]) (put p59 (mv g59 p56 (extrK 0 g56 (put p60 (extrK 1 g56 (put p61 (offK 73 g5 (put p62 (storeK 3 g62 g60 (dropS (offK 82 g5 (put p63 (storeK 1 g63 g61 (dropS (mv g0 p64 (nilK g64 (put p65 (offK 15 g65 (put p66 (load1K g66 (put p67 (offK 83 g5 (put p68 (storeK 1 g68 g67 (dropS (mv g0 p69 (nilK g69 (put p70 (offK 6 g70 (put p71 (load1K g71 (put p72 (callK call 7 (fun tm => [g72 tm]) (put p73 (callK call 8 (fun tm => [g73 tm]) (put p74 (mv g0 p75 (callK call 180 (fun tm => [g75 tm]) (put p76 (offK 77 g5 (put p77 (storeK 1 g77 g74 (dropS (offK 78 g5 (put p78 (storeK 1 g78 g76 (dropS (drawC (fun tm h => adraw T3 call round 91 (regOps T3 131 12) tm h) (offK 73 g5 (put p89 (loadNK 3 g89 (put p90 (storeK 3 g4 g90 (dropS (F131ret)))))))))))))))))))))))))))))))))))))))))))))))))))))))))))))))))
def F131j1 (call round : Caller) (K : Nat) : CF :=
  mv g0 p48 (nilK g48 (put p49 (offK 14 g49 (put p50 (load1K g50 (put p51 (offK 79 g5 (put p52 (storeK 1 g52 g51 (dropS ((F131j0 call round K))))))))))))
def F131j2 (call round : Caller) (K : Nat) : CF :=
  drawC (fun tm h => adraw T3 call round 91 (regOps T3 131 3) tm h) (offK 0 g3 (put p30 (load1K g30 (put p31 (intK gEql (bin T3 .eql 3) g31 (constE (.int .i64 (.ofNat 9))) (put p32 (condC g32 (mv g0 p33 (nilK g33 (put p34 (offK 7 g34 (put p35 (load1K g35 (put p36 (callK call 10 (fun tm => [g36 tm]) (put p37 (fieldK 8 false 0 g37 (put p38 (intK gEql (bin T3 .eql 3) g38 (constE (.int .i64 (.ofNat 0))) (put p39 (condC g39 (mv g0 p40 (mv g0 p41 (nilK g41 (put p42 (offK 13 g42 (put p43 (load1K g43 (put p44 (lenK g44 (put p45 (nilK g40 (put p46 (offK 14 g46 (put p47 (storeK 1 g47 g45 (dropS ((F131j1 call round K)))))))))))))))))) ((F131j1 call round K)))))))))))))))) ((F131j0 call round K)))))))))
def F131 (call round : Caller) (K : Nat) : FnT := funC 91 (boxK 103 g1 (put p3 (allocK [(.int .i64 (.ofNat 0)), (.str ⟨#[]⟩), (.bool false)] 217 (put p4 (loadNK 73 g3 (put p6 (callK call 177 (fun tm => [g6 tm]) (put p7 (notK g7 (put p8 (condC g8 (valK (buildV (nthPR [(0, 1), (1, 1), (2, 1)]) [(.int .i64 (.ofNat 0)), (.str ⟨#[]⟩), (.bool false)] (fun tm => [(0, (constE (.int .i64 (.ofNat 50))) tm)])) (put p9 (storeK 3 g4 g9 (dropS (F131ret))))) ((F131j2 call round K)))))))))))))
theorem F131_eq (call round : Caller) (K : Nat) : funF T3 call round K 131 = F131 call round K := by kernel_rfl

/-! 132 (*revetment/bmap.Map).All -/
def F132ret : CF := (ret1 g2)
def F132 (call round : Caller) (K : Nat) : FnT := funC 8 (mv (constE .nilfunc) p2 (mv g0 p3 (nilK g3 (put p4 (offK 6 g4 (put p5 (load1K g5 (put p6 (callK call 181 (fun tm => [g6 tm]) (put p7 (mv g7 p2 (F132ret))))))))))))
theorem F132_eq (call round : Caller) (K : Nat) : funF T3 call round K 132 = F132 call round K := by kernel_rfl

/-! 133 (*revetment/core.Core).Areas -/
def F133ret : CF := (ret1 g2)
def F133 (call round : Caller) (K : Nat) : FnT := funC 7 (mv (constE .nilptr) p2 (mv g0 p3 (nilK g3 (put p4 (offK 1 g4 (put p5 (load1K g5 (put p6 (mv g6 p2 (F133ret))))))))))
theorem F133_eq (call round : Caller) (K : Nat) : funF T3 call round K 133 = F133 call round K := by kernel_rfl

/-! 134 (*revetment/area.Areas).Zones -/
def F134ret : CF := (ret2 g4 g5)
def F134j0 (call round : Caller) (K : Nat) : CF :=
  drawC (fun tm h => adraw T3 call round 23 (regOps T3 134 3) tm h) (F134ret)
def F134 (call round : Caller) (K : Nat) : FnT := funC 23 (mv (constE (.int .i64 (.ofNat 0))) p4 (mv (constE (.int .i64 (.ofNat 0))) p5 (mv g1 p6 (callK call 142 (fun tm => [g6 tm]) (put p7 (notK g7 (put p8 (condC g8 (mv (constE (.int .i64 (.negSucc 0))) p4 (mv (constE (.int .i64 (.negSucc 0))) p5 (F134ret))) ((F134j0 call round K))))))))))
theorem F134_eq (call round : Caller) (K : Nat) : funF T3 call round K 134 = F134 call round K := by kernel_rfl

/-! 135 (*revetment/zdev.Device).Look -/
def F135ret : CF := (ret1 g4)
def F135j0 (call round : Caller) (K : Nat) : CF :=
  mv g0 p9 (nilK g9 (put p10 (offK 0 g10 (put p11 (load1K g11 (put p12 (mv g1 p13 (ixSliK 1 g12 g13 (put p14 (load1K g14 (put p15 (callK call 184 (fun tm => [g15 tm]) (put p16 (mv g16 p4 (F135ret)))))))))))))))
def F135 (call round : Caller) (K : Nat) : FnT := funC 17 (mv (constE .nilfunc) p4 (mv g0 p5 (mv g1 p6 (callK call 182 (fun tm => [g5 tm, g6 tm]) (put p7 (notK g7 (put p8 (condC g8 (mv (constE (.func 183 [] [])) p4 (F135ret)) ((F135j0 call round K))))))))))
theorem F135_eq (call round : Caller) (K : Nat) : funF T3 call round K 135 = F135 call round K := by kernel_rfl

/-! 136 revetment/ckpt.Parse -/
def F136ret : CF := (retC T3 [.cell 6 188, .tmp 7])
def F136j0 (call round : Caller) (K : Nat) : CF :=
  mv g8 p35 (callK call 186 (fun tm => [g35 tm]) (put p36 (extrK 0 g36 (put p37 (extrK 1 g36 (put p38 (storeK 4 g6 g37 (dropS (mv g38 p7 (F136ret))))))))))
def F136j2 (call round : Caller) (K : Nat) (ih1 : CF) : CF :=
  intK gAdd (bin T3 .add 3) g15 (constE (.int .i64 (.ofNat 1))) (put p34 (mv g34 p15 (ih1)))
def F136j3 (call round : Caller) (K : Nat) (ih1 : CF) : CF :=
  mv g8 p30 (loadNK 49 g11 (put p31 (slowK (buildSliceM (List.replicate 5 (.int .i64 (.ofNat 0)) ++ List.replicate 44 (.int .u8 (.ofNat 0))) 235 49 1 (fun tm => [(0, g31 tm)])) (put p32 (slowK (appendM 235 49 g30 g32) (put p33 (mv g33 p8 ((F136j2 call round K ih1)))))))))
def F136j4 (call round : Caller) (K : Nat) (ih1 : CF) : CF :=
  mv g15 p17 (ixSliK 64 g13 g15 (put p18 (loadNK 64 g18 (put p19 (allocK (List.replicate 64 (.int .u8 (.ofNat 0))) 44 (put p10 (mv g17 p9 (storeK 64 g10 g19 (dropS (loadNK 256 g3 (put p21 (loadNK 64 g10 (put p22 (mv g1 p23 (mv g9 p24 (callK call 185 (fun tm => [g21 tm, g22 tm, g23 tm, g24 tm]) (put p25 (mv g25 p20 (extrK 0 g20 (put p26 (extrK 1 g20 (put p27 (allocK (List.replicate 5 (.int .i64 (.ofNat 0)) ++ List.replicate 44 (.int .u8 (.ofNat 0))) 235 (put p11 (storeK 49 g11 g26 (dropS (mv g27 p12 (mv g12 p28 (intK gNeq (bin T3 .neq 36) g28 (constE (.int .i64 (.ofNat 0))) (put p29 (condC g29 ((F136j0 call round K)) ((F136j3 call round K ih1)))))))))))))))))))))))))))))))))
def F136b5 (call round : Caller) (K : Nat) (ih1 : CF) : CF :=
  intK gLss (bin T3 .lss 3) g15 g14 (put p16 (condC g16 ((F136j4 call round K ih1)) ((F136j0 call round K))))
def F136 (call round : Caller) (K : Nat) : FnT := funC 39 (boxK 125 g0 (put p3 (allocK [(.int .i64 (.ofNat 0)), (.int .i64 (.ofNat 0)), (.int .i64 (.ofNat 0)), .nilptr] 188 (put p6 (mv (constE (.int .i64 (.ofNat 0))) p7 (mv (constE .nilslice) p8 (mv g2 p13 (lenK g13 (put p14 (mv (constE (.int .i64 (.ofNat 0))) p15 (loopC (F136b5 call round K) K)))))))))))
theorem F136_eq (call round : Caller) (K : Nat) : funF T3 call round K 136 = F136 call round K := by kernel_rfl

/-! 137 revetment/scan.All -/
def F137ret : CF := (retC T3 [.cell 2 165, .tmp 3])
def F137j0 (call round : Caller) (K : Nat) : CF :=
  loadNK 3 g4 (put p32 (storeK 3 g2 g32 (dropS (mv (constE (.int .i64 (.ofNat 0))) p3 (F137ret)))))
def F137j2 (call round : Caller) (K : Nat) (ih1 : CF) : CF :=
  intK gAdd (bin T3 .add 3) g12 (constE (.int .i64 (.ofNat 1))) (put p31 (mv g31 p12 (ih1)))
def F137j3 (call round : Caller) (K : Nat) (ih1 : CF) : CF :=
  mv g0 p26 (mv g5 p27 (mv g6 p28 (mv g7 p29 (callK call 188 (fun tm => [g4 tm, g26 tm, g27 tm, g28 tm, g29 tm]) (put p30 ((F137j2 call round K ih1)))))))
def F137j4 (call round : Caller) (K : Nat) (ih1 : CF) : CF :=
  mv g12 p14 (mv g14 p5 (mv g0 p16 (mv g5 p17 (callK call 187 (fun tm => [g16 tm, g17 tm]) (put p18 (mv g18 p15 (extrK 0 g15 (put p19 (extrK 1 g15 (put p20 (extrK 2 g15 (put p21 (mv g19 p6 (mv g20 p7 (mv g21 p8 (mv g8 p22 (intK gNeq (bin T3 .neq 36) g22 (constE (.int .i64 (.ofNat 0))) (put p23 (condC g23 (valK (buildV (nthPR [(0, 1), (1, 1), (2, 1)]) [.nilslice, .nilslice, (.int .i64 (.ofNat 0))] (fun tm => [])) (put p24 (mv g8 p25 (storeK 3 g2 g24 (dropS (mv g25 p3 (F137ret))))))) ((F137j3 call round K ih1)))))))))))))))))))))
def F137b5 (call round : Caller) (K : Nat) (ih1 : CF) : CF :=
  intK gLss (bin T3 .lss 3) g12 g11 (put p13 (condC g13 ((F137j4 call round K ih1)) ((F137j0 call round K))))
def F137 (call round : Caller) (K : Nat) : FnT := funC 33 (allocK [.nilslice, .nilslice, (.int .i64 (.ofNat 0))] 165 (put p2 (mv (constE (.int .i64 (.ofNat 0))) p3 (allocK [.nilslice, .nilslice, (.int .i64 (.ofNat 0))] 165 (put p4 (mv g0 p9 (callK call 79 (fun tm => [g9 tm]) (put p10 (callK call 24 (fun tm => [g10 tm]) (put p11 (mv (constE (.int .i64 (.ofNat 0))) p12 (loopC (F137b5 call round K) K))))))))))))
theorem F137_eq (call round : Caller) (K : Nat) : funF T3 call round K 137 = F137 call round K := by kernel_rfl

/-! 138 (*revetment/zdev.Device).State -/
def F138ret : CF := (ret1 g4)
def F138j0 (call round : Caller) (K : Nat) : CF :=
  mv g0 p9 (nilK g9 (put p10 (offK 0 g10 (put p11 (load1K g11 (put p12 (mv g1 p13 (ixSliK 1 g12 g13 (put p14 (load1K g14 (put p15 (callK call 189 (fun tm => [g15 tm]) (put p16 (mv g16 p4 (F138ret)))))))))))))))
def F138 (call round : Caller) (K : Nat) : FnT := funC 17 (mv (constE (.int .i64 (.ofNat 0))) p4 (mv g0 p5 (mv g1 p6 (callK call 182 (fun tm => [g5 tm, g6 tm]) (put p7 (notK g7 (put p8 (condC g8 (mv (constE (.int .i64 (.ofNat 4))) p4 (F138ret)) ((F138j0 call round K))))))))))
theorem F138_eq (call round : Caller) (K : Nat) : funF T3 call round K 138 = F138 call round K := by kernel_rfl

/-! 140 revetment/mount.free -/
def F140ret : CF := (ret1 g4)
def F140j0 (call round : Caller) (K : Nat) : CF :=
  mv g0 p22 (callK call 37 (fun tm => [g22 tm]) (put p23 (mv g1 p24 (callK call 169 (fun tm => [g23 tm, g24 tm]) (put p25 (mv g25 p4 (F140ret)))))))
def F140 (call round : Caller) (K : Nat) : FnT := funC 26 (mv (constE (.int .i64 (.ofNat 0))) p4 (mv g0 p6 (callK call 114 (fun tm => [g6 tm]) (put p7 (callK call 7 (fun tm => [g7 tm]) (put p8 (mv g1 p9 (callK call 138 (fun tm => [g8 tm, g9 tm]) (put p10 (intK gNeq (bin T3 .neq 3) g10 (constE (.int .i64 (.ofNat 0))) (put p11 (condC g11 (mv g0 p12 (callK call 114 (fun tm => [g12 tm]) (put p13 (mv g1 p14 (callK call 168 (fun tm => [g13 tm, g14 tm]) (put p15 (mv g15 p5 (mv g5 p16 (intK gNeq (bin T3 .neq 36) g16 (constE (.int .i64 (.ofNat 0))) (put p17 (condC g17 (mv g0 p18 (mv g1 p19 (mv g5 p20 (callK call 190 (fun tm => [g18 tm, g19 tm, g20 tm]) (put p21 (mv g21 p4 (F140ret))))))) ((F140j0 call round K))))))))))))) ((F140j0 call round K))))))))))))))
theorem F140_eq (call round : Caller) (K : Nat) : funF T3 call round K 140 = F140 call round K := by kernel_rfl

/-! 141 (*revetment/queue.Queue[int]).Take -/
def F141ret : CF := (ret2 g2 g3)
def F141 (call round : Caller) (K : Nat) : FnT := funC 16 (mv (constE (.int .i64 (.ofNat 0))) p2 (mv (constE (.int .i64 (.ofNat 0))) p3 (mv g0 p6 (nilK g6 (put p7 (offK 0 g7 (put p8 (load1K g8 (put p9 (slowK (recvM (.int .i64 (.ofNat 0)) g9) (put p10 (extrK 0 g10 (put p11 (intK gEql (bin T3 .eql 3) g11 (constE (.int .i64 (.ofNat 0))) (put p12 (condC g12 (extrK 2 g10 (put p14 (mv g14 p4 (mv g4 p15 (mv g15 p2 (mv (constE (.int .i64 (.ofNat 0))) p3 (F141ret))))))) (mv (constE (.int .i64 (.ofNat 0))) p5 (mv g5 p13 (mv g13 p2 (mv (constE (.int .i64 (.ofNat 15))) p3 (F141ret)))))))))))))))))))))
theorem F141_eq (call round : Caller) (K : Nat) : funF T3 call round K 141 = F141 call round K := by kernel_rfl

/-! 142 revetment/area.has -/
def F142ret : CF := (ret1 g2)
def F142j0 (call round : Caller) (K : Nat) : CF :=
  pickK g5 g7 (constE (.bool false)) (put p8 (mv g8 p2 (F142ret)))
def F142j1 (call round : Caller) (K : Nat) : CF :=
  guardK (wantG o5 true) (intK gLss (bin T3 .lss 3) g6 (constE (.int .i64 (.ofNat 3))) (put p7 ((F142j0 call round K)))) (put p7 ((F142j0 call round K)))
def F142 (call round : Caller) (K : Nat) : FnT := funC 9 (mv (constE (.bool false)) p2 (mv g0 p3 (intK gGeq (bin T3 .geq 3) g3 (constE (.int .i64 (.ofNat 0))) (put p4 (mv g4 p5 (guardK (wantG o5 true) (moveK g0 (put p6 ((F142j1 call round K)))) (put p6 ((F142j1 call round K)))))))))
theorem F142_eq (call round : Caller) (K : Nat) : funF T3 call round K 142 = F142 call round K := by kernel_rfl

/-! 143 (*revetment/area.Areas).fits -/
def F143ret : CF := (ret1 g6)
def F143j0 (call round : Caller) (K : Nat) : CF :=
  pickK g9 (constE (.bool true)) g18 (put p19 (mv g19 p6 (F143ret)))
def F143j1 (call round : Caller) (K : Nat) : CF :=
  guardK (wantG o9 false) (intK gEql (bin T3 .eql 3) g16 g17 (put p18 ((F143j0 call round K)))) (put p18 ((F143j0 call round K)))
def F143j2 (call round : Caller) (K : Nat) : CF :=
  guardK (wantG o9 false) (moveK g1 (put p17 ((F143j1 call round K)))) (put p17 ((F143j1 call round K)))
def F143j3 (call round : Caller) (K : Nat) : CF :=
  guardK (wantG o9 false) (callK call 126 (fun tm => [g14 tm, g15 tm]) (put p16 ((F143j2 call round K)))) (put p16 ((F143j2 call round K)))
def F143j4 (call round : Caller) (K : Nat) : CF :=
  guardK (wantG o9 false) (moveK g2 (put p15 ((F143j3 call round K)))) (put p15 ((F143j3 call round K)))
def F143j5 (call round : Caller) (K : Nat) : CF :=
  guardK (wantG o9 false) (callK call 79 (fun tm => [g13 tm]) (put p14 ((F143j4 call round K)))) (put p14 ((F143j4 call round K)))
def F143j6 (call round : Caller) (K : Nat) : CF :=
  guardK (wantG o9 false) (load1K g12 (put p13 ((F143j5 call round K)))) (put p13 ((F143j5 call round K)))
def F143j7 (call round : Caller) (K : Nat) : CF :=
  guardK (wantG o9 false) (offK 0 g11 (put p12 ((F143j6 call round K)))) (put p12 ((F143j6 call round K)))
def F143j8 (call round : Caller) (K : Nat) : CF :=
  guardK (wantG o9 false) (nilK g10 (put p11 ((F143j7 call round K)))) (put p11 ((F143j7 call round K)))
def F143 (call round : Caller) (K : Nat) : FnT := funC 20 (mv (constE (.bool false)) p6 (mv g2 p7 (intK gEql (bin T3 .eql 3) g7 (constE (.int .i64 (.negSucc 0))) (put p8 (mv g8 p9 (guardK (wantG o9 false) (moveK g0 (put p10 ((F143j8 call round K)))) (put p10 ((F143j8 call round K)))))))))
theorem F143_eq (call round : Caller) (K : Nat) : funF T3 call round K 143 = F143 call round K := by kernel_rfl

/-! 146 (revetment/bmap.Entry).Right -/
def F146ret : CF := (ret1 g4)
def F146j0 (call round : Caller) (K : Nat) : CF :=
  condC g7 (loadNK 6 g2 (put p10 (offK 0 g2 (put p11 (load1K g11 (put p12 (valK (buildV (nthPR [(0, 1), (1, 1), (2, 1), (3, 1), (4, 1), (5, 1)]) [(.int .i64 (.ofNat 0)), (.int .i64 (.ofNat 0)), (.int .i64 (.ofNat 0)), (.int .i64 (.ofNat 0)), (.int .i64 (.ofNat 0)), (.int .i64 (.ofNat 0))] (fun tm => [(0, g12 tm)])) (put p13 (intK gEql (bin T3 .eql 135) g10 g13 (put p14 (mv g14 p4 (F146ret)))))))))))) (intK gEql (bin T3 .eql 3) g6 (constE (.int .i64 (.ofNat 1))) (put p16 (mv g16 p15 (condC g15 (drawC (fun tm h => adraw T3 call round 62 (regOps T3 146 6) tm h) (F146ret)) (mv (constE (.bool false)) p4 (F146ret))))))
def F146 (call round : Caller) (K : Nat) : FnT := funC 62 (boxK 135 g0 (put p2 (boxK 23 g1 (put p3 (mv (constE (.bool false)) p4 (offK 0 g2 (put p5 (load1K g5 (put p6 (intK gEql (bin T3 .eql 3) g6 (constE (.int .i64 (.ofNat 0))) (put p8 (mv g8 p7 (condC g7 ((F146j0 call round K)) (intK gEql (bin T3 .eql 3) g6 (constE (.int .i64 (.ofNat 2))) (put p9 (mv g9 p7 ((F146j0 call round K))))))))))))))))))
theorem F146_eq (call round : Caller) (K : Nat) : funF T3 call round K 146 = F146 call round K := by kernel_rfl

/-! 147 (*revetment/bmap.Map).count -/
def F147ret : CF := ret0
def F147 (call round : Caller) (K : Nat) : FnT := funC 31 (boxK 135 g1 (put p4 (offK 0 g4 (put p6 (load1K g6 (put p7 (intK gEql (bin T3 .eql 3) g7 (constE (.int .i64 (.ofNat 1))) (put p8 (condC g8 (drawC (fun tm h => adraw T3 call round 31 (regOps T3 147 2) tm h) (drawC (fun tm h => adraw T3 call round 31 (regOps T3 147 3) tm h) (F147ret))) (F147ret))))))))))
theorem F147_eq (call round : Caller) (K : Nat) : funF T3 call round K 147 = F147 call round K := by kernel_rfl

/-! 150 (revetment/snap.Snap).Right -/
def F150ret : CF := (retC T3 [.cell 2 4])
def F150j0 (call round : Caller) (K : Nat) : CF :=
  storeK 1 g2 (constE (.bool true)) (dropS (F150ret))
def F150j1 (call round : Caller) (K : Nat) : CF :=
  offK 3 g1 (put p26 (load1K g26 (put p27 (callK call 132 (fun tm => [g27 tm]) (put p28 (rangeS T3 call 150 36 none 0 (fun _ => badC) [(0, (F150j0 call round K))] F150ret ((F150j0 call round K))))))))
def F150j2 (call round : Caller) (K : Nat) : CF :=
  pickK g20 (constE (.bool true)) g24 (put p25 (condC g25 (storeK 1 g2 (constE (.bool false)) (dropS (F150ret))) ((F150j1 call round K))))
def F150j3 (call round : Caller) (K : Nat) : CF :=
  guardK (wantG o20 false) (notK g23 (put p24 ((F150j2 call round K)))) (put p24 ((F150j2 call round K)))
def F150j4 (call round : Caller) (K : Nat) : CF :=
  guardK (wantG o20 false) (callK call 199 (fun tm => [g22 tm, (constE (.int .i64 (.ofNat 281474976710655))) tm]) (put p23 ((F150j3 call round K)))) (put p23 ((F150j3 call round K)))
def F150j5 (call round : Caller) (K : Nat) : CF :=
  guardK (wantG o20 false) (load1K g21 (put p22 ((F150j4 call round K)))) (put p22 ((F150j4 call round K)))
def F150j6 (call round : Caller) (K : Nat) : CF :=
  pickK g14 (constE (.bool true)) g18 (put p19 (mv g19 p20 (guardK (wantG o20 false) (offK 2 g1 (put p21 ((F150j5 call round K)))) (put p21 ((F150j5 call round K))))))
def F150j7 (call round : Caller) (K : Nat) : CF :=
  guardK (wantG o14 false) (notK g17 (put p18 ((F150j6 call round K)))) (put p18 ((F150j6 call round K)))
def F150j8 (call round : Caller) (K : Nat) : CF :=
  guardK (wantG o14 false) (callK call 199 (fun tm => [g16 tm, (constE (.int .i64 (.ofNat 4294967295))) tm]) (put p17 ((F150j7 call round K)))) (put p17 ((F150j7 call round K)))
def F150j9 (call round : Caller) (K : Nat) : CF :=
  guardK (wantG o14 false) (load1K g15 (put p16 ((F150j8 call round K)))) (put p16 ((F150j8 call round K)))
def F150j10 (call round : Caller) (K : Nat) : CF :=
  pickK g8 (constE (.bool true)) g12 (put p13 (mv g13 p14 (guardK (wantG o14 false) (offK 1 g1 (put p15 ((F150j9 call round K)))) (put p15 ((F150j9 call round K))))))
def F150j11 (call round : Caller) (K : Nat) : CF :=
  guardK (wantG o8 false) (notK g11 (put p12 ((F150j10 call round K)))) (put p12 ((F150j10 call round K)))
def F150j12 (call round : Caller) (K : Nat) : CF :=
  guardK (wantG o8 false) (callK call 199 (fun tm => [g10 tm, (constE (.int .i64 (.ofNat 281474976710655))) tm]) (put p11 ((F150j11 call round K)))) (put p11 ((F150j11 call round K)))
def F150j13 (call round : Caller) (K : Nat) : CF :=
  guardK (wantG o8 false) (load1K g9 (put p10 ((F150j12 call round K)))) (put p10 ((F150j12 call round K)))
def F150 (call round : Caller) (K : Nat) : FnT := funC 36 (boxK 188 g0 (put p1 (allocK [(.bool false)] 4 (put p2 (offK 3 g1 (put p5 (load1K g5 (put p6 (intK gEql (bin T3 .eql 92) g6 (constE .nilptr) (put p7 (mv g7 p8 (guardK (wantG o8 false) (offK 0 g1 (put p9 ((F150j13 call round K)))) (put p9 ((F150j13 call round K)))))))))))))))
theorem F150_eq (call round : Caller) (K : Nat) : funF T3 call round K 150 = F150 call round K := by kernel_rfl

/-! 163 revetment/queue.New[int] -/
def F163ret : CF := (ret2 g2 g3)
def F163j0 (call round : Caller) (K : Nat) : CF :=
  mv g0 p10 (slowK (makeChanM g10) (put p11 (valK (buildV (nthPR [(0, 1)]) [.nilchan] (fun tm => [(0, g11 tm)])) (put p12 (boxK 215 g12 (put p13 (mv g13 p2 (mv (constE (.int .i64 (.ofNat 0))) p3 (F163ret)))))))))
def F163j1 (call round : Caller) (K : Nat) : CF :=
  pickK g6 (constE (.bool true)) g8 (put p9 (condC g9 (mv (constE .nilptr) p2 (mv (constE (.int .i64 (.ofNat 13))) p3 (F163ret))) ((F163j0 call round K))))
def F163j2 (call round : Caller) (K : Nat) : CF :=
  guardK (wantG o6 false) (intK gGtr (bin T3 .gtr 3) g7 (constE (.int .i64 (.ofNat 4096))) (put p8 ((F163j1 call round K)))) (put p8 ((F163j1 call round K)))
def F163 (call round : Caller) (K : Nat) : FnT := funC 14 (mv (constE .nilptr) p2 (mv (constE (.int .i64 (.ofNat 0))) p3 (mv g0 p4 (intK gLss (bin T3 .lss 3) g4 (constE (.int .i64 (.ofNat 1))) (put p5 (mv g5 p6 (guardK (wantG o6 false) (moveK g0 (put p7 ((F163j2 call round K)))) (put p7 ((F163j2 call round K))))))))))
theorem F163_eq (call round : Caller) (K : Nat) : funF T3 call round K 163 = F163 call round K := by kernel_rfl

/-! 164 (*revetment/plan.Drive).due -/
def F164ret : CF := ret0
def F164j1 (call round : Caller) (K : Nat) (ih0 : CF) : CF :=
  mv g0 p32 (nilK g32 (put p33 (offK 1 g33 (put p34 (load1K g34 (put p35 (ixSliK 68 g35 (constE (.int .i64 (.ofNat 0))) (put p36 (loadNK 68 g36 (put p37 (allocK (List.replicate 4 (.int .i64 (.ofNat 0)) ++ List.replicate 64 (.int .u8 (.ofNat 0))) 46 (put p2 (storeK 68 g2 g37 (dropS (mv g0 p38 (mv g0 p39 (nilK g39 (put p40 (offK 1 g40 (put p41 (load1K g41 (put p42 (valK (sliV 68 g42 (fun tm => some ((constE (.int .i64 (.ofNat 1))) tm)) (fun _ => none) (fun _ => none)) (put p43 (callK call 212 (fun tm => [g43 tm]) (put p44 (nilK g38 (put p45 (offK 1 g45 (put p46 (storeK 1 g46 g44 (dropS (mv g0 p47 (loadNK 68 g2 (put p48 (callK call 213 (fun tm => [g47 tm, g48 tm]) (put p49 (ih0))))))))))))))))))))))))))))))))))))))
def F164b2 (call round : Caller) (K : Nat) (ih0 : CF) : CF :=
  drawC (fun tm h => adraw T3 call round 50 (regOps T3 164 0) tm h) (condC g31 ((F164j1 call round K ih0)) (F164ret))
def F164 (call round : Caller) (K : Nat) : FnT := funC 50 (loopC (F164b2 call round K) K)
theorem F164_eq (call round : Caller) (K : Nat) : funF T3 call round K 164 = F164 call round K := by kernel_rfl

/-! 165 (*revetment/zdev.Device).Flush -/
def F165ret : CF := (ret1 g2)
def F165j0 (call round : Caller) (K : Nat) : CF :=
  mv (constE (.int .i64 (.ofNat 0))) p2 (F165ret)
def F165j2 (call round : Caller) (K : Nat) (ih1 : CF) : CF :=
  intK gAdd (bin T3 .add 3) g21 (constE (.int .i64 (.ofNat 1))) (put p27 (mv g27 p21 (ih1)))
def F165j3 (call round : Caller) (K : Nat) (ih1 : CF) : CF :=
  ixSliK 1 g19 g21 (put p23 (load1K g23 (put p24 (mv g24 p4 (mv g4 p25 (callK call 214 (fun tm => [g25 tm]) (put p26 ((F165j2 call round K ih1)))))))))
def F165b4 (call round : Caller) (K : Nat) (ih1 : CF) : CF :=
  intK gLss (bin T3 .lss 3) g21 g20 (put p22 (condC g22 ((F165j3 call round K ih1)) ((F165j0 call round K))))
def F165j5 (call round : Caller) (K : Nat) : CF :=
  mv g0 p9 (nilK g9 (put p10 (offK 3 g10 (put p11 (load1K g11 (put p12 (intK gAdd (bin T3 .add 3) g12 (constE (.int .i64 (.ofNat 1))) (put p13 (nilK g9 (put p14 (offK 3 g14 (put p15 (storeK 1 g15 g13 (dropS (mv g0 p16 (nilK g16 (put p17 (offK 0 g17 (put p18 (load1K g18 (put p19 (lenK g19 (put p20 (mv (constE (.int .i64 (.ofNat 0))) p21 (loopC (F165b4 call round K) K)))))))))))))))))))))))))
def F165 (call round : Caller) (K : Nat) : FnT := funC 28 (mv (constE (.int .i64 (.ofNat 0))) p2 (mv g0 p5 (nilK g5 (put p6 (offK 4 g6 (put p7 (load1K g7 (put p8 (condC g8 (mv (constE (.int .i64 (.ofNat 34))) p2 (F165ret)) ((F165j5 call round K)))))))))))
theorem F165_eq (call round : Caller) (K : Nat) : funF T3 call round K 165 = F165 call round K := by kernel_rfl

/-! 166 (*revetment/area.Areas).write -/
def F166ret : CF := (ret2 g6 g7)
def F166j1 (call round : Caller) (K : Nat) (ih0 : CF) : CF :=
  mv g0 p46 (nilK g46 (put p47 (offK 0 g47 (put p48 (load1K g48 (put p49 (mv g8 p50 (callK call 170 (fun tm => [g49 tm, g50 tm]) (put p51 (intK gEql (bin T3 .eql 36) g51 (constE (.int .i64 (.ofNat 34))) (put p52 (condC g52 (mv (constE (.bool false)) p6 (mv (constE (.int .i64 (.ofNat 34))) p7 (F166ret))) (ih0)))))))))))))
def F166j2 (call round : Caller) (K : Nat) (ih0 : CF) : CF :=
  mv g0 p15 (loadNK 4 g5 (put p16 (mv g8 p17 (callK call 216 (fun tm => [g15 tm, g16 tm, g17 tm]) (put p18 (mv g18 p9 (mv g9 p19 (intK gEql (bin T3 .eql 36) g19 (constE (.int .i64 (.ofNat 0))) (put p21 (mv g21 p20 (condC g20 (drawC (fun tm h => adraw T3 call round 53 (regOps T3 166 7) tm h) (mv (constE (.bool true)) p6 (mv (constE (.int .i64 (.ofNat 0))) p7 (F166ret)))) (intK gEql (bin T3 .eql 36) g19 (constE (.int .i64 (.ofNat 34))) (put p37 (mv g37 p36 (condC g36 (mv g0 p38 (mv g1 p39 (mv g8 p40 (nilK g38 (put p41 (offK 1 g41 (put p42 (ixArrK 3 2 g42 g39 (put p43 (offK 1 g43 (put p44 (storeK 1 g44 g40 (dropS (mv g9 p45 (mv (constE (.bool false)) p6 (mv g45 p7 (F166ret))))))))))))))))) ((F166j1 call round K ih0)))))))))))))))))
def F166b3 (call round : Caller) (K : Nat) (ih0 : CF) : CF :=
  mv g0 p10 (mv g1 p11 (callK call 215 (fun tm => [g10 tm, g11 tm]) (put p12 (mv g12 p8 (mv g8 p13 (intK gEql (bin T3 .eql 3) g13 (constE (.int .i64 (.negSucc 0))) (put p14 (condC g14 (mv (constE (.bool false)) p6 (mv (constE (.int .i64 (.ofNat 0))) p7 (F166ret))) ((F166j2 call round K ih0))))))))))
def F166 (call round : Caller) (K : Nat) : FnT := funC 53 (boxK 188 g2 (put p5 (mv (constE (.bool false)) p6 (mv (constE (.int .i64 (.ofNat 0))) p7 (loopC (F166b3 call round K) K)))))
theorem F166_eq (call round : Caller) (K : Nat) : funF T3 call round K 166 = F166 call round K := by kernel_rfl

/-! 167 (*revetment/core.Core).Closed -/
def F167ret : CF := (ret1 g4)
def F167j0 (call round : Caller) (K : Nat) : CF :=
  pickK g53 g61 (constE (.bool false)) (put p62 (mv g62 p4 (F167ret)))
def F167j1 (call round : Caller) (K : Nat) : CF :=
  guardK (wantG o53 true) (notK g60 (put p61 ((F167j0 call round K)))) (put p61 ((F167j0 call round K)))
def F167j2 (call round : Caller) (K : Nat) : CF :=
  guardK (wantG o53 true) (callK call 219 (fun tm => [g58 tm, g59 tm]) (put p60 ((F167j1 call round K)))) (put p60 ((F167j1 call round K)))
def F167j3 (call round : Caller) (K : Nat) : CF :=
  guardK (wantG o53 true) (moveK g1 (put p59 ((F167j2 call round K)))) (put p59 ((F167j2 call round K)))
def F167j4 (call round : Caller) (K : Nat) : CF :=
  guardK (wantG o53 true) (callK call 37 (fun tm => [g57 tm]) (put p58 ((F167j3 call round K)))) (put p58 ((F167j3 call round K)))
def F167j5 (call round : Caller) (K : Nat) : CF :=
  guardK (wantG o53 true) (load1K g56 (put p57 ((F167j4 call round K)))) (put p57 ((F167j4 call round K)))
def F167j6 (call round : Caller) (K : Nat) : CF :=
  guardK (wantG o53 true) (offK 0 g55 (put p56 ((F167j5 call round K)))) (put p56 ((F167j5 call round K)))
def F167j7 (call round : Caller) (K : Nat) : CF :=
  guardK (wantG o53 true) (nilK g54 (put p55 ((F167j6 call round K)))) (put p55 ((F167j6 call round K)))
def F167j8 (call round : Caller) (K : Nat) : CF :=
  pickK g44 g51 (constE (.bool false)) (put p52 (mv g52 p53 (guardK (wantG o53 true) (moveK g0 (put p54 ((F167j7 call round K)))) (put p54 ((F167j7 call round K))))))
def F167j9 (call round : Caller) (K : Nat) : CF :=
  guardK (wantG o44 true) (notK g50 (put p51 ((F167j8 call round K)))) (put p51 ((F167j8 call round K)))
def F167j10 (call round : Caller) (K : Nat) : CF :=
  guardK (wantG o44 true) (callK call 218 (fun tm => [g48 tm, g49 tm]) (put p50 ((F167j9 call round K)))) (put p50 ((F167j9 call round K)))
def F167j11 (call round : Caller) (K : Nat) : CF :=
  guardK (wantG o44 true) (moveK g1 (put p49 ((F167j10 call round K)))) (put p49 ((F167j10 call round K)))
def F167j12 (call round : Caller) (K : Nat) : CF :=
  guardK (wantG o44 true) (load1K g47 (put p48 ((F167j11 call round K)))) (put p48 ((F167j11 call round K)))
def F167j13 (call round : Caller) (K : Nat) : CF :=
  guardK (wantG o44 true) (offK 1 g46 (put p47 ((F167j12 call round K)))) (put p47 ((F167j12 call round K)))
def F167j14 (call round : Caller) (K : Nat) : CF :=
  guardK (wantG o44 true) (nilK g45 (put p46 ((F167j13 call round K)))) (put p46 ((F167j13 call round K)))
def F167j15 (call round : Caller) (K : Nat) : CF :=
  pickK g35 g42 (constE (.bool false)) (put p43 (mv g43 p44 (guardK (wantG o44 true) (moveK g0 (put p45 ((F167j14 call round K)))) (put p45 ((F167j14 call round K))))))
def F167j16 (call round : Caller) (K : Nat) : CF :=
  guardK (wantG o35 true) (notK g41 (put p42 ((F167j15 call round K)))) (put p42 ((F167j15 call round K)))
def F167j17 (call round : Caller) (K : Nat) : CF :=
  guardK (wantG o35 true) (callK call 71 (fun tm => [g39 tm, g40 tm]) (put p41 ((F167j16 call round K)))) (put p41 ((F167j16 call round K)))
def F167j18 (call round : Caller) (K : Nat) : CF :=
  guardK (wantG o35 true) (moveK g1 (put p40 ((F167j17 call round K)))) (put p40 ((F167j17 call round K)))
def F167j19 (call round : Caller) (K : Nat) : CF :=
  guardK (wantG o35 true) (load1K g38 (put p39 ((F167j18 call round K)))) (put p39 ((F167j18 call round K)))
def F167j20 (call round : Caller) (K : Nat) : CF :=
  guardK (wantG o35 true) (offK 0 g37 (put p38 ((F167j19 call round K)))) (put p38 ((F167j19 call round K)))
def F167j21 (call round : Caller) (K : Nat) : CF :=
  guardK (wantG o35 true) (nilK g36 (put p37 ((F167j20 call round K)))) (put p37 ((F167j20 call round K)))
def F167j22 (call round : Caller) (K : Nat) : CF :=
  pickK g30 g33 (constE (.bool false)) (put p34 (mv g34 p35 (guardK (wantG o35 true) (moveK g0 (put p36 ((F167j21 call round K)))) (put p36 ((F167j21 call round K))))))
def F167j23 (call round : Caller) (K : Nat) : CF :=
  guardK (wantG o30 true) (intK gNeq (bin T3 .neq 3) g31 g32 (put p33 ((F167j22 call round K)))) (put p33 ((F167j22 call round K)))
def F167j24 (call round : Caller) (K : Nat) : CF :=
  guardK (wantG o30 true) (moveK g6 (put p32 ((F167j23 call round K)))) (put p32 ((F167j23 call round K)))
def F167j25 (call round : Caller) (K : Nat) : CF :=
  pickK g25 g28 (constE (.bool false)) (put p29 (mv g29 p30 (guardK (wantG o30 true) (moveK g1 (put p31 ((F167j24 call round K)))) (put p31 ((F167j24 call round K))))))
def F167j26 (call round : Caller) (K : Nat) : CF :=
  guardK (wantG o25 true) (intK gNeq (bin T3 .neq 3) g26 g27 (put p28 ((F167j25 call round K)))) (put p28 ((F167j25 call round K)))
def F167j27 (call round : Caller) (K : Nat) : CF :=
  guardK (wantG o25 true) (moveK g5 (put p27 ((F167j26 call round K)))) (put p27 ((F167j26 call round K)))
def F167 (call round : Caller) (K : Nat) : FnT := funC 63 (mv (constE (.bool false)) p4 (mv g0 p9 (nilK g9 (put p10 (offK 0 g10 (put p11 (load1K g11 (put p12 (callK call 217 (fun tm => [g12 tm]) (put p13 (mv g13 p8 (extrK 0 g8 (put p14 (extrK 1 g8 (put p15 (extrK 2 g8 (put p16 (mv g14 p5 (mv g15 p6 (mv g16 p7 (mv g0 p17 (nilK g17 (put p18 (offK 0 g18 (put p19 (load1K g19 (put p20 (callK call 79 (fun tm => [g20 tm]) (put p21 (mv g1 p22 (callK call 126 (fun tm => [g21 tm, g22 tm]) (put p23 (intK gGeq (bin T3 .geq 3) g23 (constE (.int .i64 (.ofNat 0))) (put p24 (mv g24 p25 (guardK (wantG o25 true) (moveK g1 (put p26 ((F167j27 call round K)))) (put p26 ((F167j27 call round K)))))))))))))))))))))))))))))))))))))))
theorem F167_eq (call round : Caller) (K : Nat) : funF T3 call round K 167 = F167 call round K := by kernel_rfl

/-! 169 (*revetment/pool.Pool).Give -/
def F169ret : CF := (ret1 g4)
def F169j0 (call round : Caller) (K : Nat) : CF :=
  mv g0 p19 (nilK g19 (put p20 (offK 6 g20 (put p21 (load1K g21 (put p22 (mv g5 p23 (ixSliK 1 g22 g23 (put p24 (load1K g24 (put p25 (mv g1 p26 (callK call 223 (fun tm => [g25 tm, g26 tm]) (put p27 (mv g27 p4 (F169ret))))))))))))))))
def F169 (call round : Caller) (K : Nat) : FnT := funC 28 (mv (constE (.int .i64 (.ofNat 0))) p4 (mv g0 p6 (nilK g6 (put p7 (offK 0 g7 (put p8 (loadNK 6 g8 (put p9 (mv g1 p10 (callK call 126 (fun tm => [g9 tm, g10 tm]) (put p11 (mv g11 p5 (mv g5 p13 (intK gLss (bin T3 .lss 3) g13 (constE (.int .i64 (.ofNat 0))) (put p14 (mv g14 p12 (condC g12 (mv (constE (.int .i64 (.ofNat 13))) p4 (F169ret)) (mv g0 p16 (mv g1 p17 (callK call 219 (fun tm => [g16 tm, g17 tm]) (put p18 (mv g18 p15 (condC g15 (mv (constE (.int .i64 (.ofNat 16))) p4 (F169ret)) ((F169j0 call round K)))))))))))))))))))))))))
theorem F169_eq (call round : Caller) (K : Nat) : funF T3 call round K 169 = F169 call round K := by kernel_rfl

/-! 176 revetment/geom.within -/
def F176ret : CF := (ret1 g6)
def F176j0 (call round : Caller) (K : Nat) : CF :=
  pickK g10 g13 (constE (.bool false)) (put p14 (mv g14 p6 (F176ret)))
def F176j1 (call round : Caller) (K : Nat) : CF :=
  guardK (wantG o10 true) (intK gLeq (bin T3 .leq 3) g11 g12 (put p13 ((F176j0 call round K)))) (put p13 ((F176j0 call round K)))
def F176j2 (call round : Caller) (K : Nat) : CF :=
  guardK (wantG o10 true) (moveK g2 (put p12 ((F176j1 call round K)))) (put p12 ((F176j1 call round K)))
def F176 (call round : Caller) (K : Nat) : FnT := funC 15 (mv (constE (.bool false)) p6 (mv g0 p7 (mv g1 p8 (intK gGeq (bin T3 .geq 3) g7 g8 (put p9 (mv g9 p10 (guardK (wantG o10 true) (moveK g0 (put p11 ((F176j2 call round K)))) (put p11 ((F176j2 call round K))))))))))
theorem F176_eq (call round : Caller) (K : Nat) : funF T3 call round K 176 = F176 call round K := by kernel_rfl

/-! 177 (revetment/script.Step).Right -/
def F177ret : CF := (ret1 g2)
def F177j0 (call round : Caller) (K : Nat) : CF :=
  pickK g60 g64 (constE (.bool false)) (put p65 (mv g65 p2 (F177ret)))
def F177j1 (call round : Caller) (K : Nat) : CF :=
  guardK (wantG o60 true) (callK call 230 (fun tm => [g63 tm]) (put p64 ((F177j0 call round K)))) (put p64 ((F177j0 call round K)))
def F177j2 (call round : Caller) (K : Nat) : CF :=
  guardK (wantG o60 true) (load1K g62 (put p63 ((F177j1 call round K)))) (put p63 ((F177j1 call round K)))
def F177j3 (call round : Caller) (K : Nat) : CF :=
  guardK (wantG o60 true) (offK 3 g61 (put p62 ((F177j2 call round K)))) (put p62 ((F177j2 call round K)))
def F177j4 (call round : Caller) (K : Nat) : CF :=
  pickK g54 g58 (constE (.bool false)) (put p59 (mv g59 p60 (guardK (wantG o60 true) (offK 4 g1 (put p61 ((F177j3 call round K)))) (put p61 ((F177j3 call round K))))))
def F177j5 (call round : Caller) (K : Nat) : CF :=
  guardK (wantG o54 true) (callK call 230 (fun tm => [g57 tm]) (put p58 ((F177j4 call round K)))) (put p58 ((F177j4 call round K)))
def F177j6 (call round : Caller) (K : Nat) : CF :=
  guardK (wantG o54 true) (load1K g56 (put p57 ((F177j5 call round K)))) (put p57 ((F177j5 call round K)))
def F177j7 (call round : Caller) (K : Nat) : CF :=
  guardK (wantG o54 true) (offK 2 g55 (put p56 ((F177j6 call round K)))) (put p56 ((F177j6 call round K)))
def F177j8 (call round : Caller) (K : Nat) : CF :=
  pickK g48 g52 (constE (.bool false)) (put p53 (mv g53 p54 (guardK (wantG o54 true) (offK 4 g1 (put p55 ((F177j7 call round K)))) (put p55 ((F177j7 call round K))))))
def F177j9 (call round : Caller) (K : Nat) : CF :=
  guardK (wantG o48 true) (callK call 230 (fun tm => [g51 tm]) (put p52 ((F177j8 call round K)))) (put p52 ((F177j8 call round K)))
def F177j10 (call round : Caller) (K : Nat) : CF :=
  guardK (wantG o48 true) (load1K g50 (put p51 ((F177j9 call round K)))) (put p51 ((F177j9 call round K)))
def F177j11 (call round : Caller) (K : Nat) : CF :=
  guardK (wantG o48 true) (offK 0 g49 (put p50 ((F177j10 call round K)))) (put p50 ((F177j10 call round K)))
def F177j12 (call round : Caller) (K : Nat) : CF :=
  pickK g42 g46 (constE (.bool false)) (put p47 (mv g47 p48 (guardK (wantG o48 true) (offK 4 g1 (put p49 ((F177j11 call round K)))) (put p49 ((F177j11 call round K))))))
def F177j13 (call round : Caller) (K : Nat) : CF :=
  guardK (wantG o42 true) (intK gLeq (bin T3 .leq 3) g45 (constE (.int .i64 (.ofNat 512))) (put p46 ((F177j12 call round K)))) (put p46 ((F177j12 call round K)))
def F177j14 (call round : Caller) (K : Nat) : CF :=
  guardK (wantG o42 true) (slowK (builtinM T3 .len #[9] fun tm => [g44 tm]) (put p45 ((F177j13 call round K)))) (put p45 ((F177j13 call round K)))
def F177j15 (call round : Caller) (K : Nat) : CF :=
  guardK (wantG o42 true) (load1K g43 (put p44 ((F177j14 call round K)))) (put p44 ((F177j14 call round K)))
def F177j16 (call round : Caller) (K : Nat) : CF :=
  pickK g36 g40 (constE (.bool false)) (put p41 (mv g41 p42 (guardK (wantG o42 true) (offK 72 g1 (put p43 ((F177j15 call round K)))) (put p43 ((F177j15 call round K))))))
def F177j17 (call round : Caller) (K : Nat) : CF :=
  guardK (wantG o36 true) (intK gLeq (bin T3 .leq 3) g39 (constE (.int .i64 (.ofNat 256))) (put p40 ((F177j16 call round K)))) (put p40 ((F177j16 call round K)))
def F177j18 (call round : Caller) (K : Nat) : CF :=
  guardK (wantG o36 true) (slowK (builtinM T3 .len #[9] fun tm => [g38 tm]) (put p39 ((F177j17 call round K)))) (put p39 ((F177j17 call round K)))
def F177j19 (call round : Caller) (K : Nat) : CF :=
  guardK (wantG o36 true) (load1K g37 (put p38 ((F177j18 call round K)))) (put p38 ((F177j18 call round K)))
def F177j20 (call round : Caller) (K : Nat) : CF :=
  pickK g31 g34 (constE (.bool false)) (put p35 (mv g35 p36 (guardK (wantG o36 true) (offK 3 g1 (put p37 ((F177j19 call round K)))) (put p37 ((F177j19 call round K))))))
def F177j21 (call round : Caller) (K : Nat) : CF :=
  guardK (wantG o31 true) (callK call 230 (fun tm => [g33 tm]) (put p34 ((F177j20 call round K)))) (put p34 ((F177j20 call round K)))
def F177j22 (call round : Caller) (K : Nat) : CF :=
  guardK (wantG o31 true) (load1K g32 (put p33 ((F177j21 call round K)))) (put p33 ((F177j21 call round K)))
def F177j23 (call round : Caller) (K : Nat) : CF :=
  offK 1 g1 (put p28 (load1K g28 (put p29 (callK call 230 (fun tm => [g29 tm]) (put p30 (mv g30 p31 (guardK (wantG o31 true) (offK 2 g1 (put p32 ((F177j22 call round K)))) (put p32 ((F177j22 call round K))))))))))
def F177 (call round : Caller) (K : Nat) : FnT := funC 66 (boxK 103 g0 (put p1 (mv (constE (.bool false)) p2 (drawC (fun tm h => adraw T3 call round 66 (regOps T3 177 1) tm h) (condC g27 (mv (constE (.bool false)) p2 (F177ret)) ((F177j23 call round K)))))))
theorem F177_eq (call round : Caller) (K : Nat) : funF T3 call round K 177 = F177 call round K := by kernel_rfl

/-! 178 (*revetment/machine.Machine).up -/
def F178ret : CF := (ret1 g2)
def F178 (call round : Caller) (K : Nat) : FnT := funC 9 (mv (constE (.bool false)) p2 (mv g0 p3 (nilK g3 (put p4 (offK 7 g4 (put p5 (load1K g5 (put p6 (callK call 48 (fun tm => [g6 tm]) (put p7 (intK gNeq (bin T3 .neq 88) g7 (constE .nilptr) (put p8 (mv g8 p2 (F178ret))))))))))))))
theorem F178_eq (call round : Caller) (K : Nat) : funF T3 call round K 178 = F178 call round K := by kernel_rfl

/-! 179 (*revetment/machine.Machine).act -/
def F179ret : CF := (retC T3 [.cell 4 217, .tmp 5])
def F179j0 (call round : Caller) (K : Nat) : CF :=
  mv g0 p86 (loadNK 73 g3 (put p87 (callK call 240 (fun tm => [g87 tm]) (put p88 (callK call 239 (fun tm => [g86 tm, g88 tm]) (put p89 (storeK 3 g4 g89 (dropS (mv (constE (.bool true)) p5 (F179ret))))))))))
def F179 (call round : Caller) (K : Nat) : FnT := funC 90 (boxK 103 g1 (put p3 (allocK [(.int .i64 (.ofNat 0)), (.str ⟨#[]⟩), (.bool false)] 217 (put p4 (mv (constE (.bool false)) p5 (offK 0 g3 (put p8 (load1K g8 (put p9 (intK gEql (bin T3 .eql 3) g9 (constE (.int .i64 (.ofNat 1))) (put p11 (mv g11 p10 (condC g10 (mv g0 p12 (callK call 231 (fun tm => [g12 tm]) (put p13 (storeK 3 g4 g13 (dropS (mv (constE (.bool true)) p5 (F179ret))))))) (intK gEql (bin T3 .eql 3) g9 (constE (.int .i64 (.ofNat 2))) (put p15 (mv g15 p14 (condC g14 (mv g0 p16 (callK call 232 (fun tm => [g16 tm]) (put p17 (extrK 0 g17 (put p18 (extrK 1 g17 (put p19 (storeK 3 g4 g18 (dropS (mv g19 p5 (F179ret))))))))))) (intK gEql (bin T3 .eql 3) g9 (constE (.int .i64 (.ofNat 3))) (put p21 (mv g21 p20 (condC g20 (mv g0 p22 (mv g0 p23 (nilK g23 (put p24 (offK 7 g24 (put p25 (load1K g25 (put p26 (callK call 18 (fun tm => [g26 tm]) (put p27 (callK call 233 (fun tm => [g22 tm, g27 tm]) (put p28 (storeK 3 g4 g28 (dropS (mv (constE (.bool true)) p5 (F179ret)))))))))))))))) (intK gEql (bin T3 .eql 3) g9 (constE (.int .i64 (.ofNat 4))) (put p30 (mv g30 p29 (condC g29 (mv g0 p31 (loadNK 73 g3 (put p32 (callK call 234 (fun tm => [g31 tm, g32 tm]) (put p33 (extrK 0 g33 (put p34 (extrK 1 g33 (put p35 (storeK 3 g4 g34 (dropS (mv g35 p5 (F179ret))))))))))))) (intK gEql (bin T3 .eql 3) g9 (constE (.int .i64 (.ofNat 5))) (put p37 (mv g37 p36 (condC g36 (mv g0 p38 (loadNK 73 g3 (put p39 (callK call 235 (fun tm => [g38 tm, g39 tm]) (put p40 (storeK 3 g4 g40 (dropS (mv (constE (.bool true)) p5 (F179ret))))))))) (intK gEql (bin T3 .eql 3) g9 (constE (.int .i64 (.ofNat 6))) (put p42 (mv g42 p41 (condC g41 (mv g0 p43 (loadNK 73 g3 (put p44 (callK call 236 (fun tm => [g43 tm, g44 tm]) (put p45 (storeK 3 g4 g45 (dropS (mv (constE (.bool true)) p5 (F179ret))))))))) (intK gEql (bin T3 .eql 3) g9 (constE (.int .i64 (.ofNat 7))) (put p47 (mv g47 p46 (condC g46 (mv g0 p48 (mv g0 p49 (nilK g49 (put p50 (offK 7 g50 (put p51 (load1K g51 (put p52 (callK call 28 (fun tm => [g52 tm]) (put p53 (callK call 233 (fun tm => [g48 tm, g53 tm]) (put p54 (storeK 3 g4 g54 (dropS (mv (constE (.bool true)) p5 (F179ret)))))))))))))))) (intK gEql (bin T3 .eql 3) g9 (constE (.int .i64 (.ofNat 8))) (put p56 (mv g56 p55 (condC g55 (mv g0 p57 (mv g0 p58 (nilK g58 (put p59 (offK 7 g59 (put p60 (load1K g60 (put p61 (callK call 29 (fun tm => [g61 tm]) (put p62 (callK call 233 (fun tm => [g57 tm, g62 tm]) (put p63 (storeK 3 g4 g63 (dropS (mv (constE (.bool true)) p5 (F179ret)))))))))))))))) (intK gEql (bin T3 .eql 3) g9 (constE (.int .i64 (.ofNat 9))) (put p65 (mv g65 p64 (condC g64 (mv g0 p66 (callK call 237 (fun tm => [g66 tm]) (put p67 (storeK 3 g4 g67 (dropS (mv (constE (.bool true)) p5 (F179ret))))))) (intK gEql (bin T3 .eql 3) g9 (constE (.int .i64 (.ofNat 10))) (put p69 (mv g69 p68 (condC g68 (mv g0 p71 (nilK g71 (put p72 (offK 7 g72 (put p73 (load1K g73 (put p74 (callK call 31 (fun tm => [g74 tm]) (put p75 (mv g75 p70 (extrK 0 g70 (put p76 (extrK 1 g70 (put p77 (mv g76 p6 (mv g77 p7 (mv g7 p78 (valK (buildV (nthPR [(0, 1), (1, 1), (2, 1)]) [(.int .i64 (.ofNat 0)), (.str ⟨#[]⟩), (.bool false)] (fun tm => [(0, g78 tm)])) (put p79 (storeK 3 g4 g79 (dropS (mv (constE (.bool true)) p5 (F179ret))))))))))))))))))))))) (intK gEql (bin T3 .eql 3) g9 (constE (.int .i64 (.ofNat 11))) (put p81 (mv g81 p80 (condC g80 (mv g0 p82 (offK 4 g3 (put p83 (loadNK 68 g83 (put p84 (callK call 238 (fun tm => [g82 tm, g84 tm]) (put p85 (storeK 3 g4 g85 (dropS (mv (constE (.bool true)) p5 (F179ret))))))))))) ((F179j0 call round K)))))))))))))))))))))))))))))))))))))))))))))))))))))))
theorem F179_eq (call round : Caller) (K : Nat) : funF T3 call round K 179 = F179 call round K := by kernel_rfl

/-! 180 (*revetment/machine.Machine).happened -/
def F180ret : CF := (ret1 g2)
def F180j0 (call round : Caller) (K : Nat) : CF :=
  load1K g3 (put p12 (mv g12 p2 (F180ret)))
def F180 (call round : Caller) (K : Nat) : FnT := funC 13 (mv (constE (.int .i64 (.ofNat 0))) p2 (allocK [(.int .i64 (.ofNat 0))] 3 (put p3 (storeK 1 g3 (constE (.int .i64 (.ofNat 0))) (dropS (mv g0 p4 (nilK g4 (put p5 (offK 6 g5 (put p6 (load1K g6 (put p7 (callK call 241 (fun tm => [g7 tm]) (put p8 (rangeS T3 call 180 13 none 0 (fun _ => badC) [(0, (F180j0 call round K))] F180ret ((F180j0 call round K)))))))))))))))))
theorem F180_eq (call round : Caller) (K : Nat) : funF T3 call round K 180 = F180 call round K := by kernel_rfl

/-! 181 slices.All[[]revetment/bmap.Entry,revetment/bmap.Entry] -/
def F181ret : CF := (ret1 g2)
def F181 (call round : Caller) (K : Nat) : FnT := funC 4 (boxK 130 g0 (put p1 (mv (constE .nilfunc) p2 (valK (makeFuncV 242 (fun tm => []) (fun tm => [g1 tm])) (put p3 (mv g3 p2 (F181ret)))))))
theorem F181_eq (call round : Caller) (K : Nat) : funF T3 call round K 181 = F181 call round K := by kernel_rfl

/-! 182 (*revetment/zdev.Device).has -/
def F182ret : CF := (ret1 g4)
def F182j0 (call round : Caller) (K : Nat) : CF :=
  pickK g7 g14 (constE (.bool false)) (put p15 (mv g15 p4 (F182ret)))
def F182j1 (call round : Caller) (K : Nat) : CF :=
  guardK (wantG o7 true) (intK gLss (bin T3 .lss 3) g8 g13 (put p14 ((F182j0 call round K)))) (put p14 ((F182j0 call round K)))
def F182j2 (call round : Caller) (K : Nat) : CF :=
  guardK (wantG o7 true) (lenK g12 (put p13 ((F182j1 call round K)))) (put p13 ((F182j1 call round K)))
def F182j3 (call round : Caller) (K : Nat) : CF :=
  guardK (wantG o7 true) (load1K g11 (put p12 ((F182j2 call round K)))) (put p12 ((F182j2 call round K)))
def F182j4 (call round : Caller) (K : Nat) : CF :=
  guardK (wantG o7 true) (offK 0 g10 (put p11 ((F182j3 call round K)))) (put p11 ((F182j3 call round K)))
def F182j5 (call round : Caller) (K : Nat) : CF :=
  guardK (wantG o7 true) (nilK g9 (put p10 ((F182j4 call round K)))) (put p10 ((F182j4 call round K)))
def F182j6 (call round : Caller) (K : Nat) : CF :=
  guardK (wantG o7 true) (moveK g0 (put p9 ((F182j5 call round K)))) (put p9 ((F182j5 call round K)))
def F182 (call round : Caller) (K : Nat) : FnT := funC 16 (mv (constE (.bool false)) p4 (mv g1 p5 (intK gGeq (bin T3 .geq 3) g5 (constE (.int .i64 (.ofNat 0))) (put p6 (mv g6 p7 (guardK (wantG o7 true) (moveK g1 (put p8 ((F182j6 call round K)))) (put p8 ((F182j6 call round K)))))))))
theorem F182_eq (call round : Caller) (K : Nat) : funF T3 call round K 182 = F182 call round K := by kernel_rfl

/-! 184 (*revetment/zone.Zone[revetment/frame.Sector]).All -/
def F184ret : CF := (ret1 g2)
def F184 (call round : Caller) (K : Nat) : FnT := funC 8 (mv (constE .nilfunc) p2 (mv g0 p3 (nilK g3 (put p4 (offK 0 g4 (put p5 (load1K g5 (put p6 (callK call 243 (fun tm => [g6 tm]) (put p7 (mv g7 p2 (F184ret))))))))))))
theorem F184_eq (call round : Caller) (K : Nat) : funF T3 call round K 184 = F184 call round K := by kernel_rfl

/-! 185 revetment/frame.At -/
def F185ret : CF := (retC T3 [.cell 8 235, .tmp 9])
def F185j0 (call round : Caller) (K : Nat) : CF :=
  loadNK 49 g10 (put p33 (storeK 49 g8 g33 (dropS (mv (constE (.int .i64 (.ofNat 0))) p9 (F185ret)))))
def F185j1 (call round : Caller) (K : Nat) : CF :=
  pickK g26 (constE (.bool true)) g30 (put p31 (condC g31 (valK (buildV (nthPR [(0, 1), (1, 1), (2, 1), (3, 1), (4, 1), (5, 44)]) (List.replicate 5 (.int .i64 (.ofNat 0)) ++ List.replicate 44 (.int .u8 (.ofNat 0))) (fun tm => [])) (put p32 (storeK 49 g8 g32 (dropS (mv (constE (.int .i64 (.ofNat 12))) p9 (F185ret)))))) ((F185j0 call round K))))
def F185j2 (call round : Caller) (K : Nat) : CF :=
  guardK (wantG o26 false) (intK gNeq (bin T3 .neq 3) g28 g29 (put p30 ((F185j1 call round K)))) (put p30 ((F185j1 call round K)))
def F185j3 (call round : Caller) (K : Nat) : CF :=
  guardK (wantG o26 false) (moveK g3 (put p29 ((F185j2 call round K)))) (put p29 ((F185j2 call round K)))
def F185j4 (call round : Caller) (K : Nat) : CF :=
  guardK (wantG o26 false) (load1K g27 (put p28 ((F185j3 call round K)))) (put p28 ((F185j3 call round K)))
def F185j5 (call round : Caller) (K : Nat) : CF :=
  offK 1 g10 (put p22 (load1K g22 (put p23 (mv g2 p24 (intK gNeq (bin T3 .neq 3) g23 g24 (put p25 (mv g25 p26 (guardK (wantG o26 false) (offK 2 g10 (put p27 ((F185j4 call round K)))) (put p27 ((F185j4 call round K)))))))))))
def F185 (call round : Caller) (K : Nat) : FnT := funC 34 (boxK 125 g0 (put p4 (boxK 44 g1 (put p5 (allocK (List.replicate 5 (.int .i64 (.ofNat 0)) ++ List.replicate 44 (.int .u8 (.ofNat 0))) 235 (put p8 (mv (constE (.int .i64 (.ofNat 0))) p9 (loadNK 256 g4 (put p13 (loadNK 64 g5 (put p14 (callK call 244 (fun tm => [g13 tm, g14 tm]) (put p15 (mv g15 p12 (extrK 0 g12 (put p16 (extrK 1 g12 (put p17 (allocK (List.replicate 5 (.int .i64 (.ofNat 0)) ++ List.replicate 44 (.int .u8 (.ofNat 0))) 235 (put p10 (storeK 49 g10 g16 (dropS (mv g17 p11 (mv g11 p18 (intK gNeq (bin T3 .neq 36) g18 (constE (.int .i64 (.ofNat 0))) (put p19 (condC g19 (valK (buildV (nthPR [(0, 1), (1, 1), (2, 1), (3, 1), (4, 1), (5, 44)]) (List.replicate 5 (.int .i64 (.ofNat 0)) ++ List.replicate 44 (.int .u8 (.ofNat 0))) (fun tm => [])) (put p20 (mv g11 p21 (storeK 49 g8 g20 (dropS (mv g21 p9 (F185ret))))))) ((F185j5 call round K)))))))))))))))))))))))))))))
theorem F185_eq (call round : Caller) (K : Nat) : funF T3 call round K 185 = F185 call round K := by kernel_rfl

/-! 186 revetment/snap.Read -/
def F186ret : CF := (retC T3 [.cell 2 188, .tmp 3])
def F186j0 (call round : Caller) (K : Nat) : CF :=
  loadNK 4 g4 (put p88 (storeK 4 g2 g88 (dropS (mv (constE (.int .i64 (.ofNat 0))) p3 (F186ret)))))
def F186j2 (call round : Caller) (K : Nat) (ih1 : CF) : CF :=
  intK gAdd (bin T3 .add 3) g75 (constE (.int .i64 (.ofNat 1))) (put p87 (mv g87 p75 (ih1)))
def F186j3 (call round : Caller) (K : Nat) (ih1 : CF) : CF :=
  mv g75 p77 (ixSliK 49 g73 g75 (put p78 (loadNK 49 g78 (put p79 (allocK (List.replicate 5 (.int .i64 (.ofNat 0)) ++ List.replicate 44 (.int .u8 (.ofNat 0))) 235 (put p11 (mv g77 p10 (storeK 49 g11 g79 (dropS (drawC (fun tm h => adraw T3 call round 89 (regOps T3 186 19) tm h) (condC g85 (valK (buildV (nthPR [(0, 1), (1, 1), (2, 1), (3, 1)]) [(.int .i64 (.ofNat 0)), (.int .i64 (.ofNat 0)), (.int .i64 (.ofNat 0)), .nilptr] (fun tm => [])) (put p86 (storeK 4 g2 g86 (dropS (mv (constE (.int .i64 (.ofNat 10))) p3 (F186ret)))))) ((F186j2 call round K ih1)))))))))))))
def F186b4 (call round : Caller) (K : Nat) (ih1 : CF) : CF :=
  intK gLss (bin T3 .lss 3) g75 g74 (put p76 (condC g76 ((F186j3 call round K ih1)) ((F186j0 call round K))))
def F186j5 (call round : Caller) (K : Nat) : CF :=
  mv g9 p73 (lenK g73 (put p74 (mv (constE (.int .i64 (.ofNat 0))) p75 (loopC (F186b4 call round K) K))))
def F186j6 (call round : Caller) (K : Nat) : CF :=
  drawC (fun tm h => adraw T3 call round 89 (regOps T3 186 13) tm h) (mv g5 p70 (intK gNeq (bin T3 .neq 36) g70 (constE (.int .i64 (.ofNat 0))) (put p71 (condC g71 (valK (buildV (nthPR [(0, 1), (1, 1), (2, 1), (3, 1)]) [(.int .i64 (.ofNat 0)), (.int .i64 (.ofNat 0)), (.int .i64 (.ofNat 0)), .nilptr] (fun tm => [])) (put p72 (storeK 4 g2 g72 (dropS (mv (constE (.int .i64 (.ofNat 10))) p3 (F186ret)))))) ((F186j5 call round K))))))
def F186j8 (call round : Caller) (K : Nat) (ih7 : CF) : CF :=
  intK gAdd (bin T3 .add 3) g43 (constE (.int .i64 (.ofNat 1))) (put p60 (mv g60 p43 (ih7)))
def F186j9 (call round : Caller) (K : Nat) (ih7 : CF) : CF :=
  pickK g53 (constE (.bool true)) g57 (put p58 (condC g58 (valK (buildV (nthPR [(0, 1), (1, 1), (2, 1), (3, 1)]) [(.int .i64 (.ofNat 0)), (.int .i64 (.ofNat 0)), (.int .i64 (.ofNat 0)), .nilptr] (fun tm => [])) (put p59 (storeK 4 g2 g59 (dropS (mv (constE (.int .i64 (.ofNat 10))) p3 (F186ret)))))) ((F186j8 call round K ih7))))
def F186j10 (call round : Caller) (K : Nat) (ih7 : CF) : CF :=
  guardK (wantG o53 false) (intK gNeq (bin T3 .neq 36) g56 (constE (.int .i64 (.ofNat 0))) (put p57 ((F186j9 call round K ih7)))) (put p57 ((F186j9 call round K ih7)))
def F186j11 (call round : Caller) (K : Nat) (ih7 : CF) : CF :=
  guardK (wantG o53 false) (callK call 246 (fun tm => [g54 tm, g55 tm]) (put p56 ((F186j10 call round K ih7)))) (put p56 ((F186j10 call round K ih7)))
def F186j12 (call round : Caller) (K : Nat) (ih7 : CF) : CF :=
  guardK (wantG o53 false) (loadNK 49 g8 (put p55 ((F186j11 call round K ih7)))) (put p55 ((F186j11 call round K ih7)))
def F186j13 (call round : Caller) (K : Nat) (ih7 : CF) : CF :=
  mv g43 p45 (ixSliK 49 g41 g43 (put p46 (loadNK 49 g46 (put p47 (allocK (List.replicate 5 (.int .i64 (.ofNat 0)) ++ List.replicate 44 (.int .u8 (.ofNat 0))) 235 (put p8 (mv g45 p7 (storeK 49 g8 g47 (dropS (offK 2 g8 (put p48 (load1K g48 (put p49 (mv g7 p50 (intK gAdd (bin T3 .add 3) g50 (constE (.int .i64 (.ofNat 1))) (put p51 (intK gNeq (bin T3 .neq 3) g49 g51 (put p52 (mv g52 p53 (guardK (wantG o53 false) (loadNK 4 g4 (put p54 ((F186j12 call round K ih7)))) (put p54 ((F186j12 call round K ih7)))))))))))))))))))))))
def F186b14 (call round : Caller) (K : Nat) (ih7 : CF) : CF :=
  intK gLss (bin T3 .lss 3) g43 g42 (put p44 (condC g44 ((F186j13 call round K ih7)) ((F186j6 call round K))))
def F186j15 (call round : Caller) (K : Nat) : CF :=
  offK 3 g4 (put p35 (load1K g35 (put p36 (callK call 122 (fun tm => [g36 tm]) (put p37 (callK call 129 (fun tm => [g37 tm]) (put p38 (mv g38 p6 (mv g0 p39 (mv g6 p40 (valK (sliV 49 g39 (fun tm => some ((constE (.int .i64 (.ofNat 1))) tm)) (fun tm => some (g40 tm)) (fun _ => none)) (put p41 (lenK g41 (put p42 (mv (constE (.int .i64 (.ofNat 0))) p43 (loopC (F186b14 call round K) K))))))))))))))))
def F186j16 (call round : Caller) (K : Nat) : CF :=
  pickK g25 (constE (.bool true)) g32 (put p33 (condC g33 (valK (buildV (nthPR [(0, 1), (1, 1), (2, 1), (3, 1)]) [(.int .i64 (.ofNat 0)), (.int .i64 (.ofNat 0)), (.int .i64 (.ofNat 0)), .nilptr] (fun tm => [])) (put p34 (storeK 4 g2 g34 (dropS (mv (constE (.int .i64 (.ofNat 10))) p3 (F186ret)))))) ((F186j15 call round K))))
def F186j17 (call round : Caller) (K : Nat) : CF :=
  guardK (wantG o25 false) (intK gGtr (bin T3 .gtr 3) g29 g31 (put p32 ((F186j16 call round K)))) (put p32 ((F186j16 call round K)))
def F186j18 (call round : Caller) (K : Nat) : CF :=
  guardK (wantG o25 false) (lenK g30 (put p31 ((F186j17 call round K)))) (put p31 ((F186j17 call round K)))
def F186j19 (call round : Caller) (K : Nat) : CF :=
  guardK (wantG o25 false) (moveK g0 (put p30 ((F186j18 call round K)))) (put p30 ((F186j18 call round K)))
def F186j20 (call round : Caller) (K : Nat) : CF :=
  guardK (wantG o25 false) (callK call 129 (fun tm => [g28 tm]) (put p29 ((F186j19 call round K)))) (put p29 ((F186j19 call round K)))
def F186j21 (call round : Caller) (K : Nat) : CF :=
  guardK (wantG o25 false) (callK call 122 (fun tm => [g27 tm]) (put p28 ((F186j20 call round K)))) (put p28 ((F186j20 call round K)))
def F186j22 (call round : Caller) (K : Nat) : CF :=
  guardK (wantG o25 false) (load1K g26 (put p27 ((F186j21 call round K)))) (put p27 ((F186j21 call round K)))
def F186j23 (call round : Caller) (K : Nat) : CF :=
  mv g0 p17 (ixSliK 49 g17 (constE (.int .i64 (.ofNat 0))) (put p18 (loadNK 49 g18 (put p19 (callK call 245 (fun tm => [g19 tm]) (put p20 (mv g20 p16 (extrK 0 g16 (put p21 (extrK 1 g16 (put p22 (allocK [(.int .i64 (.ofNat 0)), (.int .i64 (.ofNat 0)), (.int .i64 (.ofNat 0)), .nilptr] 188 (put p4 (storeK 4 g4 g21 (dropS (mv g22 p5 (mv g5 p23 (intK gNeq (bin T3 .neq 36) g23 (constE (.int .i64 (.ofNat 0))) (put p24 (mv g24 p25 (guardK (wantG o25 false) (offK 3 g4 (put p26 ((F186j22 call round K)))) (put p26 ((F186j22 call round K))))))))))))))))))))))))
def F186 (call round : Caller) (K : Nat) : FnT := funC 89 (allocK [(.int .i64 (.ofNat 0)), (.int .i64 (.ofNat 0)), (.int .i64 (.ofNat 0)), .nilptr] 188 (put p2 (mv (constE (.int .i64 (.ofNat 0))) p3 (mv g0 p12 (lenK g12 (put p13 (intK gEql (bin T3 .eql 3) g13 (constE (.int .i64 (.ofNat 0))) (put p14 (condC g14 (valK (buildV (nthPR [(0, 1), (1, 1), (2, 1), (3, 1)]) [(.int .i64 (.ofNat 0)), (.int .i64 (.ofNat 0)), (.int .i64 (.ofNat 0)), .nilptr] (fun tm => [])) (put p15 (storeK 4 g2 g15 (dropS (mv (constE (.int .i64 (.ofNat 10))) p3 (F186ret)))))) ((F186j23 call round K)))))))))))
theorem F186_eq (call round : Caller) (K : Nat) : funF T3 call round K 186 = F186 call round K := by kernel_rfl

/-! 187 revetment/scan.read -/
def F187ret : CF := (retC T3 [.tmp 4, .tmp 5, .tmp 6])
def F187j0 (call round : Caller) (K : Nat) : CF :=
  mv g4 p48 (mv g5 p49 (mv g48 p4 (mv g49 p5 (mv (constE (.int .i64 (.ofNat 0))) p6 (F187ret)))))
def F187j2 (call round : Caller) (K : Nat) (ih1 : CF) : CF :=
  intK gAdd (bin T3 .add 3) g15 (constE (.int .i64 (.ofNat 1))) (put p47 (mv g47 p15 (ih1)))
def F187j3 (call round : Caller) (K : Nat) (ih1 : CF) : CF :=
  mv g4 p38 (loadNK 64 g8 (put p39 (slowK (buildSliceM (List.replicate 64 (.int .u8 (.ofNat 0))) 44 64 1 (fun tm => [(0, g39 tm)])) (put p40 (slowK (appendM 44 64 g38 g40) (put p41 (mv g41 p4 (mv g5 p42 (mv g9 p43 (intK gEql (bin T3 .eql 36) g43 (constE (.int .i64 (.ofNat 0))) (put p44 (slowK (buildSliceM [(.bool false)] 4 1 1 (fun tm => [(0, g44 tm)])) (put p45 (slowK (appendM 4 1 g42 g45) (put p46 (mv g46 p5 ((F187j2 call round K ih1))))))))))))))))))
def F187j4 (call round : Caller) (K : Nat) (ih1 : CF) : CF :=
  mv g4 p36 (mv g5 p37 (mv g36 p4 (mv g37 p5 (mv (constE (.int .i64 (.ofNat 0))) p6 (F187ret)))))
def F187j5 (call round : Caller) (K : Nat) (ih1 : CF) : CF :=
  mv g15 p17 (mv g17 p7 (mv g0 p19 (callK call 114 (fun tm => [g19 tm]) (put p20 (mv g1 p21 (mv g7 p22 (callK call 208 (fun tm => [g20 tm, g21 tm, g22 tm]) (put p23 (mv g23 p18 (extrK 0 g18 (put p24 (extrK 1 g18 (put p25 (allocK (List.replicate 64 (.int .u8 (.ofNat 0))) 44 (put p8 (storeK 64 g8 g24 (dropS (mv g25 p9 (mv g9 p26 (intK gEql (bin T3 .eql 36) g26 (constE (.int .i64 (.ofNat 34))) (put p28 (mv g28 p27 (condC g27 (mv g9 p29 (mv (constE .nilslice) p4 (mv (constE .nilslice) p5 (mv g29 p6 (F187ret))))) (intK gEql (bin T3 .eql 36) g26 (constE (.int .i64 (.ofNat 32))) (put p31 (mv g31 p30 (condC g30 (mv g0 p32 (mv g1 p33 (callK call 170 (fun tm => [g32 tm, g33 tm]) (put p34 (intK gEql (bin T3 .eql 36) g34 (constE (.int .i64 (.ofNat 34))) (put p35 (condC g35 (mv (constE .nilslice) p4 (mv (constE .nilslice) p5 (mv (constE (.int .i64 (.ofNat 34))) p6 (F187ret)))) ((F187j4 call round K ih1))))))))) ((F187j3 call round K ih1)))))))))))))))))))))))))))))
def F187b6 (call round : Caller) (K : Nat) (ih1 : CF) : CF :=
  intK gLss (bin T3 .lss 3) g15 g14 (put p16 (condC g16 ((F187j5 call round K ih1)) ((F187j0 call round K))))
def F187 (call round : Caller) (K : Nat) : FnT := funC 50 (mv (constE .nilslice) p4 (mv (constE .nilslice) p5 (mv (constE (.int .i64 (.ofNat 0))) p6 (mv g0 p10 (callK call 114 (fun tm => [g10 tm]) (put p11 (callK call 7 (fun tm => [g11 tm]) (put p12 (mv g1 p13 (callK call 206 (fun tm => [g12 tm, g13 tm]) (put p14 (mv (constE (.int .i64 (.ofNat 0))) p15 (loopC (F187b6 call round K) K)))))))))))))
theorem F187_eq (call round : Caller) (K : Nat) : funF T3 call round K 187 = F187 call round K := by kernel_rfl

/-! 188 (*revetment/scan.Scan).add -/
def F188ret : CF := ret0
def F188j0 (call round : Caller) (K : Nat) : CF :=
  mv g1 p66 (callK call 99 (fun tm => [g66 tm]) (put p67 (mv g2 p68 (mv g3 p69 (mv g4 p70 (callK call 248 (fun tm => [g69 tm, g70 tm]) (put p71 (callK call 136 (fun tm => [g67 tm, g68 tm, g71 tm]) (put p72 (mv g72 p65 (extrK 0 g65 (put p73 (extrK 1 g65 (put p74 (allocK [(.int .i64 (.ofNat 0)), (.int .i64 (.ofNat 0)), (.int .i64 (.ofNat 0)), .nilptr] 188 (put p14 (storeK 4 g14 g73 (dropS (mv g74 p15 (mv g15 p75 (intK gEql (bin T3 .eql 36) g75 (constE (.int .i64 (.ofNat 0))) (put p76 (condC g76 (drawC (fun tm h => adraw T3 call round 89 (regOps T3 188 10) tm h) (F188ret)) (F188ret))))))))))))))))))))))))
def F188j2 (call round : Caller) (K : Nat) (ih1 : CF) : CF :=
  intK gAdd (bin T3 .add 3) g18 (constE (.int .i64 (.ofNat 1))) (put p64 (mv g64 p18 (ih1)))
def F188j3 (call round : Caller) (K : Nat) (ih1 : CF) : CF :=
  drawC (fun tm h => adraw T3 call round 89 (regOps T3 188 5) tm h) (drawC (fun tm h => adraw T3 call round 89 (regOps T3 188 6) tm h) ((F188j2 call round K ih1)))
def F188j4 (call round : Caller) (K : Nat) (ih1 : CF) : CF :=
  pickK g34 (constE (.bool true)) g39 (put p40 (condC g40 ((F188j2 call round K ih1)) ((F188j3 call round K ih1))))
def F188j5 (call round : Caller) (K : Nat) (ih1 : CF) : CF :=
  guardK (wantG o34 false) (notK g38 (put p39 ((F188j4 call round K ih1)))) (put p39 ((F188j4 call round K ih1)))
def F188j6 (call round : Caller) (K : Nat) (ih1 : CF) : CF :=
  guardK (wantG o34 false) (load1K g37 (put p38 ((F188j5 call round K ih1)))) (put p38 ((F188j5 call round K ih1)))
def F188j7 (call round : Caller) (K : Nat) (ih1 : CF) : CF :=
  guardK (wantG o34 false) (ixSliK 1 g35 g36 (put p37 ((F188j6 call round K ih1)))) (put p37 ((F188j6 call round K ih1)))
def F188j8 (call round : Caller) (K : Nat) (ih1 : CF) : CF :=
  guardK (wantG o34 false) (moveK g10 (put p36 ((F188j7 call round K ih1)))) (put p36 ((F188j7 call round K ih1)))
def F188j9 (call round : Caller) (K : Nat) (ih1 : CF) : CF :=
  mv g18 p20 (ixSliK 64 g16 g18 (put p21 (loadNK 64 g21 (put p22 (allocK (List.replicate 64 (.int .u8 (.ofNat 0))) 44 (put p11 (mv g20 p10 (storeK 64 g11 g22 (dropS (drawC (fun tm h => adraw T3 call round 89 (regOps T3 188 3) tm h) (mv g13 p32 (intK gNeq (bin T3 .neq 36) g32 (constE (.int .i64 (.ofNat 0))) (put p33 (mv g33 p34 (guardK (wantG o34 false) (moveK g4 (put p35 ((F188j8 call round K ih1)))) (put p35 ((F188j8 call round K ih1))))))))))))))))))
def F188b10 (call round : Caller) (K : Nat) (ih1 : CF) : CF :=
  intK gLss (bin T3 .lss 3) g18 g17 (put p19 (condC g19 ((F188j9 call round K ih1)) ((F188j0 call round K))))
def F188 (call round : Caller) (K : Nat) : FnT := funC 89 (mv g3 p16 (lenK g16 (put p17 (mv (constE (.int .i64 (.ofNat 0))) p18 (loopC (F188b10 call round K) K)))))
theorem F188_eq (call round : Caller) (K : Nat) : funF T3 call round K 188 = F188 call round K := by kernel_rfl

/-! 189 (*revetment/zone.Zone[revetment/frame.Sector]).State -/
def F189ret : CF := (ret1 g2)
def F189 (call round : Caller) (K : Nat) : FnT := funC 7 (mv (constE (.int .i64 (.ofNat 0))) p2 (mv g0 p3 (nilK g3 (put p4 (offK 3 g4 (put p5 (load1K g5 (put p6 (mv g6 p2 (F189ret))))))))))
theorem F189_eq (call round : Caller) (K : Nat) : funF T3 call round K 189 = F189 call round K := by kernel_rfl

/-! 191 (*revetment/plan.Drive).Finish -/
def F191ret : CF := (ret1 g4)
def F191 (call round : Caller) (K : Nat) : FnT := funC 14 (mv (constE (.int .i64 (.ofNat 0))) p4 (mv g0 p5 (mv g1 p6 (callK call 220 (fun tm => [g5 tm, g6 tm]) (put p7 (mv g0 p8 (nilK g8 (put p9 (offK 0 g9 (put p10 (load1K g10 (put p11 (mv g1 p12 (callK call 249 (fun tm => [g11 tm, g12 tm]) (put p13 (mv g13 p4 (F191ret)))))))))))))))))
theorem F191_eq (call round : Caller) (K : Nat) : funF T3 call round K 191 = F191 call round K := by kernel_rfl

/-! 195 (revetment/crc.Table).Sum -/
def F195ret : CF := (ret1 g4)
def F195 (call round : Caller) (K : Nat) : FnT := funC 8 (boxK 125 g0 (put p2 (mv (constE (.int .u32 (.ofNat 0))) p4 (mv g1 p5 (callK call 254 (fun tm => [g2 tm, (constE (.int .u32 (.ofNat 4294967295))) tm, g5 tm]) (put p6 (binK (bin T3 .xor 123) g6 (constE (.int .u32 (.ofNat 4294967295))) (put p7 (mv g7 p4 (F195ret))))))))))
theorem F195_eq (call round : Caller) (K : Nat) : funF T3 call round K 195 = F195 call round K := by kernel_rfl

/-! 196 (revetment/geom.Geom).Holds -/
def F196ret : CF := (ret1 g6)
def F196j0 (call round : Caller) (K : Nat) : CF :=
  pickK g16 g21 (constE (.bool false)) (put p22 (mv g22 p6 (F196ret)))
def F196j1 (call round : Caller) (K : Nat) : CF :=
  guardK (wantG o16 true) (callK call 176 (fun tm => [g17 tm, (constE (.int .i64 (.ofNat 0))) tm, g20 tm]) (put p21 ((F196j0 call round K)))) (put p21 ((F196j0 call round K)))
def F196j2 (call round : Caller) (K : Nat) : CF :=
  guardK (wantG o16 true) (intK gSub (bin T3 .sub 3) g19 (constE (.int .i64 (.ofNat 1))) (put p20 ((F196j1 call round K)))) (put p20 ((F196j1 call round K)))
def F196j3 (call round : Caller) (K : Nat) : CF :=
  guardK (wantG o16 true) (load1K g18 (put p19 ((F196j2 call round K)))) (put p19 ((F196j2 call round K)))
def F196j4 (call round : Caller) (K : Nat) : CF :=
  guardK (wantG o16 true) (offK 2 g3 (put p18 ((F196j3 call round K)))) (put p18 ((F196j3 call round K)))
def F196j5 (call round : Caller) (K : Nat) : CF :=
  pickK g9 g14 (constE (.bool false)) (put p15 (mv g15 p16 (guardK (wantG o16 true) (moveK g2 (put p17 ((F196j4 call round K)))) (put p17 ((F196j4 call round K))))))
def F196j6 (call round : Caller) (K : Nat) : CF :=
  guardK (wantG o9 true) (callK call 176 (fun tm => [g10 tm, (constE (.int .i64 (.ofNat 0))) tm, g13 tm]) (put p14 ((F196j5 call round K)))) (put p14 ((F196j5 call round K)))
def F196j7 (call round : Caller) (K : Nat) : CF :=
  guardK (wantG o9 true) (intK gSub (bin T3 .sub 3) g12 (constE (.int .i64 (.ofNat 1))) (put p13 ((F196j6 call round K)))) (put p13 ((F196j6 call round K)))
def F196j8 (call round : Caller) (K : Nat) : CF :=
  guardK (wantG o9 true) (callK call 24 (fun tm => [g11 tm]) (put p12 ((F196j7 call round K)))) (put p12 ((F196j7 call round K)))
def F196j9 (call round : Caller) (K : Nat) : CF :=
  guardK (wantG o9 true) (loadNK 6 g3 (put p11 ((F196j8 call round K)))) (put p11 ((F196j8 call round K)))
def F196 (call round : Caller) (K : Nat) : FnT := funC 23 (boxK 23 g0 (put p3 (mv (constE (.bool false)) p6 (loadNK 6 g3 (put p7 (callK call 74 (fun tm => [g7 tm]) (put p8 (mv g8 p9 (guardK (wantG o9 true) (moveK g1 (put p10 ((F196j9 call round K)))) (put p10 ((F196j9 call round K))))))))))))
theorem F196_eq (call round : Caller) (K : Nat) : funF T3 call round K 196 = F196 call round K := by kernel_rfl

/-! 199 revetment/snap.within -/
def F199ret : CF := (ret1 g4)
def F199j0 (call round : Caller) (K : Nat) : CF :=
  pickK g7 g10 (constE (.bool false)) (put p11 (mv g11 p4 (F199ret)))
def F199j1 (call round : Caller) (K : Nat) : CF :=
  guardK (wantG o7 true) (intK gLeq (bin T3 .leq 3) g8 g9 (put p10 ((F199j0 call round K)))) (put p10 ((F199j0 call round K)))
def F199j2 (call round : Caller) (K : Nat) : CF :=
  guardK (wantG o7 true) (moveK g1 (put p9 ((F199j1 call round K)))) (put p9 ((F199j1 call round K)))
def F199 (call round : Caller) (K : Nat) : FnT := funC 12 (mv (constE (.bool false)) p4 (mv g0 p5 (intK gGeq (bin T3 .geq 3) g5 (constE (.int .i64 (.ofNat 1))) (put p6 (mv g6 p7 (guardK (wantG o7 true) (moveK g0 (put p8 ((F199j2 call round K)))) (put p8 ((F199j2 call round K)))))))))
theorem F199_eq (call round : Caller) (K : Nat) : funF T3 call round K 199 = F199 call round K := by kernel_rfl

/-! 206 (*revetment/zdev.Device).Len -/
def F206ret : CF := (ret1 g4)
def F206j0 (call round : Caller) (K : Nat) : CF :=
  mv g0 p9 (nilK g9 (put p10 (offK 0 g10 (put p11 (load1K g11 (put p12 (mv g1 p13 (ixSliK 1 g12 g13 (put p14 (load1K g14 (put p15 (callK call 258 (fun tm => [g15 tm]) (put p16 (mv g16 p4 (F206ret)))))))))))))))
def F206 (call round : Caller) (K : Nat) : FnT := funC 17 (mv (constE (.int .i64 (.ofNat 0))) p4 (mv g0 p5 (mv g1 p6 (callK call 182 (fun tm => [g5 tm, g6 tm]) (put p7 (notK g7 (put p8 (condC g8 (mv (constE (.int .i64 (.ofNat 0))) p4 (F206ret)) ((F206j0 call round K))))))))))
theorem F206_eq (call round : Caller) (K : Nat) : funF T3 call round K 206 = F206 call round K := by kernel_rfl

/-! 211 (*revetment/zdev.Device).Down -/
def F211ret : CF := (ret1 g2)
def F211 (call round : Caller) (K : Nat) : FnT := funC 7 (mv (constE (.bool false)) p2 (mv g0 p3 (nilK g3 (put p4 (offK 4 g4 (put p5 (load1K g5 (put p6 (mv g6 p2 (F211ret))))))))))
theorem F211_eq (call round : Caller) (K : Nat) : funF T3 call round K 211 = F211 call round K := by kernel_rfl

/-! 214 (*revetment/zone.Zone[revetment/frame.Sector]).Flush -/
def F214ret : CF := ret0
def F214 (call round : Caller) (K : Nat) : FnT := funC 10 (mv g0 p2 (mv g0 p3 (nilK g3 (put p4 (offK 0 g4 (put p5 (load1K g5 (put p6 (lenK g6 (put p7 (nilK g2 (put p8 (offK 2 g8 (put p9 (storeK 1 g9 g7 (dropS (F214ret)))))))))))))))))
theorem F214_eq (call round : Caller) (K : Nat) : funF T3 call round K 214 = F214 call round K := by kernel_rfl

/-! 215 (*revetment/area.Areas).target -/
def F215ret : CF := (ret1 g4)
def F215j0 (call round : Caller) (K : Nat) : CF :=
  mv g0 p33 (nilK g33 (put p34 (offK 0 g34 (put p35 (load1K g35 (put p36 (callK call 37 (fun tm => [g36 tm]) (put p37 (mv g1 p38 (callK call 87 (fun tm => [g37 tm, g38 tm]) (put p39 (mv g39 p32 (extrK 0 g32 (put p40 (extrK 1 g32 (put p41 (mv g40 p5 (mv g41 p6 (mv g6 p42 (intK gNeq (bin T3 .neq 36) g42 (constE (.int .i64 (.ofNat 0))) (put p43 (condC g43 (mv (constE (.int .i64 (.negSucc 0))) p4 (F215ret)) (mv g5 p44 (mv g44 p4 (F215ret)))))))))))))))))))))))))
def F215j1 (call round : Caller) (K : Nat) : CF :=
  pickK g22 g29 (constE (.bool false)) (put p30 (condC g30 (mv g5 p31 (mv g31 p4 (F215ret))) ((F215j0 call round K))))
def F215j2 (call round : Caller) (K : Nat) : CF :=
  guardK (wantG o22 true) (notK g28 (put p29 ((F215j1 call round K)))) (put p29 ((F215j1 call round K)))
def F215j3 (call round : Caller) (K : Nat) : CF :=
  guardK (wantG o22 true) (callK call 71 (fun tm => [g26 tm, g27 tm]) (put p28 ((F215j2 call round K)))) (put p28 ((F215j2 call round K)))
def F215j4 (call round : Caller) (K : Nat) : CF :=
  guardK (wantG o22 true) (moveK g5 (put p27 ((F215j3 call round K)))) (put p27 ((F215j3 call round K)))
def F215j5 (call round : Caller) (K : Nat) : CF :=
  guardK (wantG o22 true) (load1K g25 (put p26 ((F215j4 call round K)))) (put p26 ((F215j4 call round K)))
def F215j6 (call round : Caller) (K : Nat) : CF :=
  guardK (wantG o22 true) (offK 0 g24 (put p25 ((F215j5 call round K)))) (put p25 ((F215j5 call round K)))
def F215j7 (call round : Caller) (K : Nat) : CF :=
  guardK (wantG o22 true) (nilK g23 (put p24 ((F215j6 call round K)))) (put p24 ((F215j6 call round K)))
def F215 (call round : Caller) (K : Nat) : FnT := funC 45 (mv (constE (.int .i64 (.ofNat 0))) p4 (mv g0 p7 (mv g1 p8 (nilK g7 (put p9 (offK 1 g9 (put p10 (ixArrK 3 2 g10 g8 (put p11 (offK 1 g11 (put p12 (load1K g12 (put p13 (mv g13 p5 (mv g0 p14 (mv g1 p15 (nilK g14 (put p16 (offK 1 g16 (put p17 (ixArrK 3 2 g17 g15 (put p18 (offK 1 g18 (put p19 (storeK 1 g19 (constE (.int .i64 (.negSucc 0))) (dropS (mv g5 p20 (intK gNeq (bin T3 .neq 3) g20 (constE (.int .i64 (.negSucc 0))) (put p21 (mv g21 p22 (guardK (wantG o22 true) (moveK g0 (put p23 ((F215j7 call round K)))) (put p23 ((F215j7 call round K))))))))))))))))))))))))))))))))))
theorem F215_eq (call round : Caller) (K : Nat) : funF T3 call round K 215 = F215 call round K := by kernel_rfl

end
end Go.Ev
