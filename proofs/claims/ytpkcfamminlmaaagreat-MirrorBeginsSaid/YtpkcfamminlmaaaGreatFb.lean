/- Printed by GenD.lean. -/
import Derived.Test.YtpkcfamminlmaaaGreatFa
set_option linter.unusedVariables false
set_option linter.unusedSimpArgs false
set_option linter.unusedSectionVars false
namespace Go.Ev
open Go.Proofs
set_option maxRecDepth 100000
noncomputable section
/-! 5 revetment/revetmentlaw14.MirrorBegins -/
def F5ret : CF := (ret1 g6)
def F5j0 (call round : Caller) (K : Nat) (base : Nat) (s : DX) : CF :=
  pickK g99 g103 (constE (.bool false)) (put p104 (moveK g104 (put p6 (F5ret))))
def F5j1 (call round : Caller) (K : Nat) (base : Nat) (s : DX) : CF :=
  pickK g93 g97 (constE (.bool false)) (put p98 (moveK g98 (put p99 (guard2 (wantG o99 true) (moveK g9 (put p100 (dBig 30 1073741823 s (fun k => callK call 32 (fun tm => [g100 tm]) (k)) fun s => put p101 (dLoad 31 536870911 base g14 s fun s => loadNK 256 g14 (put p102 (intK gEql (bin TT .eql 72) g101 g102 (put p103 ((F5j0 call round K base s))))))))) (put p100 (put p101 (put p102 (put p103 ((F5j0 call round K base s)) (.tuple [])) (.tuple [])) (.tuple [])) (.tuple []))))))
def F5j2 (call round : Caller) (K : Nat) (base : Nat) (s : DX) : CF :=
  pickK g87 g91 (constE (.bool false)) (put p92 (moveK g92 (put p93 (guard2 (wantG o93 true) (moveK g9 (put p94 (dBig 24 16777215 s (fun k => callK call 31 (fun tm => [g94 tm]) (k)) fun s => put p95 (moveK g7 (put p96 (intK gEql (bin TT .eql 65) g95 g96 (put p97 ((F5j1 call round K base s))))))))) (put p94 (put p95 (put p96 (put p97 ((F5j1 call round K base s)) (.tuple [])) (.tuple [])) (.tuple [])) (.tuple []))))))
def F5j3 (call round : Caller) (K : Nat) (base : Nat) (s : DX) : CF :=
  pickK g81 g85 (constE (.bool false)) (put p86 (moveK g86 (put p87 (guard2 (wantG o87 true) (moveK g9 (put p88 (dBig 18 262143 s (fun k => callK call 30 (fun tm => [g88 tm]) (k)) fun s => put p89 (dLoad 19 131071 base g3 s fun s => loadNK 6 g3 (put p90 (intK gEql (bin TT .eql 23) g89 g90 (put p91 ((F5j2 call round K base s))))))))) (put p88 (put p89 (put p90 (put p91 ((F5j2 call round K base s)) (.tuple [])) (.tuple [])) (.tuple [])) (.tuple []))))))
def F5j4 (call round : Caller) (K : Nat) (base : Nat) (s : DX) : CF :=
  pickK g77 g79 (constE (.bool false)) (put p80 (moveK g80 (put p81 (guard2 (wantG o81 true) (moveK g9 (put p82 (dBig 12 4095 s (fun k => callK call 14 (fun tm => [g82 tm]) (k)) fun s => put p83 (dBig 13 8191 s (fun k => callK call 29 (fun tm => [g83 tm]) (k)) fun s => put p84 (intK gEql (bin TT .eql 3) g84 (constE (.int .i64 (.ofNat 0))) (put p85 ((F5j3 call round K base s)))))))) (put p82 (put p83 (put p84 (put p85 ((F5j3 call round K base s)) (.tuple [])) (.tuple [])) (.tuple [])) (.tuple []))))))
def F5j5 (call round : Caller) (K : Nat) (base : Nat) (s : DX) : CF :=
  pickK g73 g75 (constE (.bool false)) (put p76 (moveK g76 (put p77 (guard2 (wantG o77 true) (moveK g13 (put p78 (intK gEql (bin TT .eql 3) g78 (constE (.int .i64 (.ofNat 0))) (put p79 ((F5j4 call round K base s)))))) (put p78 (put p79 ((F5j4 call round K base s)) (.tuple [])) (.tuple []))))))
def F5j6 (call round : Caller) (K : Nat) : CF :=
  mv g9 p65 (callK call 28 (fun tm => [g65 tm]) (put p66 (mv g66 p64 (extrK 0 g64 (put p67 (extrK 1 g64 (put p68 (extrK 2 g64 (put p69 (mv g67 p11 (mv g68 p12 (mv g69 p13 (callK call 26 (fun tm => []) (put p70 (allocK (List.replicate 256 (.int .u32 (.ofNat 0))) 72 (put p14 (storeK 256 g14 g70 (dropS (drawS fun base s => moveK g11 (put p71 (intK gEql (bin TT .eql 3) g71 (constE (.int .i64 (.negSucc 0))) (put p72 (moveK g72 (put p73 (guard2 (wantG o73 true) (moveK g12 (put p74 (intK gEql (bin TT .eql 3) g74 (constE (.int .i64 (.negSucc 0))) (put p75 ((F5j5 call round K base s)))))) (put p74 (put p75 ((F5j5 call round K base s)) (.tuple [])) (.tuple [])))))))))))))))))))))))))))
def F5j7 (call round : Caller) (K : Nat) : CF :=
  pickK g60 (constE (.bool true)) g62 (put p63 (condC g63 (mv (constE (.bool false)) p6 (F5ret)) ((F5j6 call round K))))
def F5j8 (call round : Caller) (K : Nat) : CF :=
  mv g10 p58 (intK gNeq (bin TT .neq 28) g58 (constE (.int .i64 (.ofNat 0))) (put p59 (mv g59 p60 (guard2 (wantG o60 false) (mv g9 p61 (intK gEql (bin TT .eql 29) g61 (constE .nilptr) (put p62 ((F5j7 call round K))))) (put p61 (put p62 ((F5j7 call round K)) (.tuple [])) (.tuple []))))))
def F5j9 (call round : Caller) (K : Nat) : CF :=
  pickK g54 g56 (constE (.bool false)) (put p57 (mv g57 p6 (F5ret)))
def F5j10 (call round : Caller) (K : Nat) : CF :=
  pickK g46 (constE (.bool true)) g50 (put p51 (condC g51 (mv g10 p52 (intK gEql (bin TT .eql 28) g52 (constE (.int .i64 (.ofNat 20))) (put p53 (mv g53 p54 (guard2 (wantG o54 true) (mv g9 p55 (intK gEql (bin TT .eql 29) g55 (constE .nilptr) (put p56 ((F5j9 call round K))))) (put p55 (put p56 ((F5j9 call round K)) (.tuple [])) (.tuple []))))))) ((F5j8 call round K))))
def F5j11 (call round : Caller) (K : Nat) : CF :=
  pickK g37 (constE (.bool true)) g44 (put p45 (mv g45 p46 (guard2 (wantG o46 false) (offK 2 g3 (put p47 (load1K g47 (put p48 (mv g2 p49 (intK gNeq (bin TT .neq 3) g48 g49 (put p50 ((F5j10 call round K))))))))) (put p47 (put p48 (put p49 (put p50 ((F5j10 call round K)) (.tuple [])) (.tuple [])) (.tuple [])) (.tuple [])))))
def F5j12 (call round : Caller) (K : Nat) : CF :=
  drawS fun base s => moveK g7 (put p28 (dLoad 1 0 base g3 s fun s => loadNK 6 g3 (put p29 (dBig 2 0 s (fun k => callK call 26 (fun tm => []) (k)) fun s => put p30 (dBig 3 7 s (fun k => callK call 25 (fun tm => [g28 tm, g29 tm, g30 tm]) (k)) fun s => put p31 (moveK g31 (put p27 (extrK 0 g27 (put p32 (extrK 1 g27 (put p33 (moveK g32 (put p9 (moveK g33 (put p10 (loadNK 6 g3 (put p34 (callK call 27 (fun tm => [g34 tm]) (put p35 (notK g35 (put p36 (mv g36 p37 (guard2 (wantG o37 false) (offK 0 g3 (put p38 (load1K g38 (put p39 (offK 1 g3 (put p40 (load1K g40 (put p41 (intK gMul (bin TT .mul 3) g39 g41 (put p42 (mv g1 p43 (intK gNeq (bin TT .neq 3) g42 g43 (put p44 ((F5j11 call round K))))))))))))))) (put p38 (put p39 (put p40 (put p41 (put p42 (put p43 (put p44 ((F5j11 call round K)) (.tuple [])) (.tuple [])) (.tuple [])) (.tuple [])) (.tuple [])) (.tuple [])) (.tuple [])))))))))))))))))))))))))
def F5j13 (call round : Caller) (K : Nat) : CF :=
  mv g1 p20 (mv g2 p21 (callK call 24 (fun tm => [g20 tm, g21 tm, (constE (.int .i64 (.ofNat 4))) tm]) (put p22 (mv g22 p19 (extrK 0 g19 (put p23 (extrK 1 g19 (put p24 (mv g23 p7 (mv g24 p8 (mv g8 p25 (intK gNeq (bin TT .neq 28) g25 (constE (.int .i64 (.ofNat 0))) (put p26 (condC g26 (mv (constE (.bool true)) p6 (F5ret)) ((F5j12 call round K))))))))))))))))
def F5j14 (call round : Caller) (K : Nat) : CF :=
  mv g1 p17 (intK gGtr (bin TT .gtr 3) g17 (constE (.int .i64 (.ofNat 64))) (put p18 (condC g18 (mv (constE (.bool true)) p6 (F5ret)) ((F5j13 call round K)))))
def F5 (call round : Caller) (K : Nat) : FnT := funC 105 (boxK 23 g0 (put p3 (mv (constE (.bool false)) p6 (callK call 23 (fun tm => []) (put p15 (notK g15 (put p16 (condC g16 (mv (constE (.bool false)) p6 (F5ret)) ((F5j14 call round K))))))))))
theorem F5_eq (call round : Caller) (K : Nat) : funF TT call round K 5 = F5 call round K := by kernel_rfl
/-! 14 (*revetment/mirror.Mirror).Pool -/
def F14ret : CF := (ret1 g2)
def F14 (call round : Caller) (K : Nat) : FnT := funC 7 (mv (constE .nilptr) p2 (mv g0 p3 (nilK g3 (put p4 (offK 263 g4 (put p5 (load1K g5 (put p6 (mv g6 p2 (F14ret))))))))))
theorem F14_eq (call round : Caller) (K : Nat) : funF TT call round K 14 = F14 call round K := by kernel_rfl
/-! 15 (*revetment/pool.Pool).Give -/
def F15ret : CF := (ret1 g4)
def F15j0 (call round : Caller) (K : Nat) : CF :=
  mv g0 p19 (nilK g19 (put p20 (offK 6 g20 (put p21 (load1K g21 (put p22 (mv g5 p23 (ixSliK 1 g22 g23 (put p24 (load1K g24 (put p25 (mv g1 p26 (callK call 61 (fun tm => [g25 tm, g26 tm]) (put p27 (mv g27 p4 (F15ret))))))))))))))))
def F15 (call round : Caller) (K : Nat) : FnT := funC 28 (mv (constE (.int .i64 (.ofNat 0))) p4 (mv g0 p6 (nilK g6 (put p7 (offK 0 g7 (put p8 (loadNK 6 g8 (put p9 (mv g1 p10 (callK call 60 (fun tm => [g9 tm, g10 tm]) (put p11 (mv g11 p5 (mv g5 p13 (intK gLss (bin TT .lss 3) g13 (constE (.int .i64 (.ofNat 0))) (put p14 (mv g14 p12 (condC g12 (mv (constE (.int .i64 (.ofNat 13))) p4 (F15ret)) (mv g0 p16 (mv g1 p17 (callK call 49 (fun tm => [g16 tm, g17 tm]) (put p18 (mv g18 p15 (condC g15 (mv (constE (.int .i64 (.ofNat 16))) p4 (F15ret)) ((F15j0 call round K)))))))))))))))))))))))))
theorem F15_eq (call round : Caller) (K : Nat) : funF TT call round K 15 = F15 call round K := by kernel_rfl
/-! 20 (*revetment/mirror.Mirror).Quarantine -/
def F20ret : CF := (ret1 g4)
def F20j0 (call round : Caller) (K : Nat) : CF :=
  mv (constE (.int .i64 (.ofNat 0))) p4 (F20ret)
def F20j1 (call round : Caller) (K : Nat) : CF :=
  mv g0 p43 (callK call 70 (fun tm => [g43 tm]) (put p44 (intK gEql (bin TT .eql 28) g44 (constE (.int .i64 (.ofNat 34))) (put p45 (condC g45 (mv (constE (.int .i64 (.ofNat 34))) p4 (F20ret)) ((F20j0 call round K)))))))
def F20j2 (call round : Caller) (K : Nat) : CF :=
  pickK g35 g41 (constE (.bool false)) (put p42 (condC g42 (mv (constE (.int .i64 (.ofNat 0))) p4 (F20ret)) ((F20j1 call round K))))
def F20j3 (call round : Caller) (K : Nat) : CF :=
  mv g0 p17 (nilK g17 (put p18 (offK 264 g18 (put p19 (load1K g19 (put p20 (mv g1 p21 (ixSliK 1 g20 g21 (put p22 (storeK 1 g22 (constE (.int .i64 (.ofNat 1))) (dropS (mv g0 p23 (nilK g23 (put p24 (offK 263 g24 (put p25 (load1K g25 (put p26 (mv g1 p27 (callK call 69 (fun tm => [g26 tm, g27 tm]) (put p28 (mv g1 p29 (mv g0 p30 (nilK g30 (put p31 (offK 265 g31 (put p32 (load1K g32 (put p33 (intK gNeq (bin TT .neq 3) g29 g33 (put p34 (mv g34 p35 (guard2 (wantG o35 true) (mv g1 p36 (mv g0 p37 (nilK g37 (put p38 (offK 266 g38 (put p39 (load1K g39 (put p40 (intK gNeq (bin TT .neq 3) g36 g40 (put p41 ((F20j2 call round K)))))))))))) (put p36 (put p37 (put p38 (put p39 (put p40 (put p41 ((F20j2 call round K)) (.tuple [])) (.tuple [])) (.tuple [])) (.tuple [])) (.tuple [])) (.tuple [])))))))))))))))))))))))))))))))))))
def F20 (call round : Caller) (K : Nat) : FnT := funC 46 (mv (constE (.int .i64 (.ofNat 0))) p4 (mv g0 p6 (nilK g6 (put p7 (offK 1 g7 (put p8 (loadNK 6 g8 (put p9 (mv g1 p10 (callK call 60 (fun tm => [g9 tm, g10 tm]) (put p11 (intK gLss (bin TT .lss 3) g11 (constE (.int .i64 (.ofNat 0))) (put p12 (mv g12 p5 (condC g5 (mv (constE (.int .i64 (.ofNat 13))) p4 (F20ret)) (mv g0 p14 (mv g1 p15 (callK call 21 (fun tm => [g14 tm, g15 tm]) (put p16 (mv g16 p13 (condC g13 (mv (constE (.int .i64 (.ofNat 16))) p4 (F20ret)) ((F20j3 call round K)))))))))))))))))))))))
theorem F20_eq (call round : Caller) (K : Nat) : funF TT call round K 20 = F20 call round K := by kernel_rfl
/-! 21 (*revetment/mirror.Mirror).Bad -/
def F21ret : CF := (ret1 g4)
def F21j0 (call round : Caller) (K : Nat) : CF :=
  pickK g12 g20 (constE (.bool false)) (put p21 (mv g21 p4 (F21ret)))
def F21 (call round : Caller) (K : Nat) : FnT := funC 22 (mv (constE (.bool false)) p4 (mv g0 p5 (nilK g5 (put p6 (offK 1 g6 (put p7 (loadNK 6 g7 (put p8 (mv g1 p9 (callK call 60 (fun tm => [g8 tm, g9 tm]) (put p10 (intK gGeq (bin TT .geq 3) g10 (constE (.int .i64 (.ofNat 0))) (put p11 (mv g11 p12 (guard2 (wantG o12 true) (mv g0 p13 (nilK g13 (put p14 (offK 264 g14 (put p15 (load1K g15 (put p16 (mv g1 p17 (ixSliK 1 g16 g17 (put p18 (load1K g18 (put p19 (intK gEql (bin TT .eql 3) g19 (constE (.int .i64 (.ofNat 1))) (put p20 ((F21j0 call round K)))))))))))))))) (put p13 (put p14 (put p15 (put p16 (put p17 (put p18 (put p19 (put p20 ((F21j0 call round K)) (.tuple [])) (.tuple [])) (.tuple [])) (.tuple [])) (.tuple [])) (.tuple [])) (.tuple [])) (.tuple [])))))))))))))))))
theorem F21_eq (call round : Caller) (K : Nat) : funF TT call round K 21 = F21 call round K := by kernel_rfl
/-! 22 (*revetment/pool.Pool).Count -/
def F22ret : CF := (ret1 g4)
def F22j0 (call round : Caller) (K : Nat) : CF :=
  mv g0 p16 (nilK g16 (put p17 (offK 6 g17 (put p18 (load1K g18 (put p19 (mv g1 p20 (ixSliK 1 g19 g20 (put p21 (load1K g21 (put p22 (callK call 71 (fun tm => [g22 tm]) (put p23 (mv g23 p4 (F22ret)))))))))))))))
def F22j1 (call round : Caller) (K : Nat) : CF :=
  pickK g7 (constE (.bool true)) g14 (put p15 (condC g15 (mv (constE (.int .i64 (.ofNat 0))) p4 (F22ret)) ((F22j0 call round K))))
def F22 (call round : Caller) (K : Nat) : FnT := funC 24 (mv (constE (.int .i64 (.ofNat 0))) p4 (mv g1 p5 (intK gLss (bin TT .lss 3) g5 (constE (.int .i64 (.ofNat 0))) (put p6 (mv g6 p7 (guard2 (wantG o7 false) (mv g1 p8 (mv g0 p9 (nilK g9 (put p10 (offK 6 g10 (put p11 (load1K g11 (put p12 (lenK g12 (put p13 (intK gGeq (bin TT .geq 3) g8 g13 (put p14 ((F22j1 call round K)))))))))))))) (put p8 (put p9 (put p10 (put p11 (put p12 (put p13 (put p14 ((F22j1 call round K)) (.tuple [])) (.tuple [])) (.tuple [])) (.tuple [])) (.tuple [])) (.tuple [])) (.tuple []))))))))
theorem F22_eq (call round : Caller) (K : Nat) : funF TT call round K 22 = F22 call round K := by kernel_rfl
/-! 23 revetment/revetmentlaw14.anchor -/
def F23ret : CF := (ret1 g0)
def F23j0 (call round : Caller) (K : Nat) (base : Nat) (s : DX) : CF :=
  pickK g62 g65 (constE (.bool false)) (put p66 (moveK g66 (put p0 (F23ret))))
def F23j1 (call round : Caller) (K : Nat) (base : Nat) (s : DX) : CF :=
  pickK g58 g60 (constE (.bool false)) (put p61 (moveK g61 (put p62 (guard2 (wantG o62 true) (dLoad 26 67108863 base g6 s fun s => loadNK 32 g6 (put p63 (dBig 27 67108863 s (fun k => callK call 38 (fun tm => [(constE (.int .u8 (.ofNat 9))) tm]) (k)) fun s => put p64 (intK gEql (bin TT .eql 87) g63 g64 (put p65 ((F23j0 call round K base s))))))) (put p63 (put p64 (put p65 ((F23j0 call round K base s)) (.tuple [])) (.tuple [])) (.tuple []))))))
def F23j2 (call round : Caller) (K : Nat) (base : Nat) (s : DX) : CF :=
  pickK g54 g56 (constE (.bool false)) (put p57 (moveK g57 (put p58 (guard2 (wantG o58 true) (moveK g7 (put p59 (intK gEql (bin TT .eql 3) g59 (constE (.int .i64 (.ofNat 2))) (put p60 ((F23j1 call round K base s)))))) (put p59 (put p60 ((F23j1 call round K base s)) (.tuple [])) (.tuple []))))))
def F23j3 (call round : Caller) (K : Nat) (base : Nat) (s : DX) : CF :=
  pickK g49 g52 (constE (.bool false)) (put p53 (moveK g53 (put p54 (guard2 (wantG o54 true) (moveK g8 (put p55 (intK gEql (bin TT .eql 28) g55 (constE (.int .i64 (.ofNat 0))) (put p56 ((F23j2 call round K base s)))))) (put p55 (put p56 ((F23j2 call round K base s)) (.tuple [])) (.tuple []))))))
def F23j4 (call round : Caller) (K : Nat) (base : Nat) (s : DX) : CF :=
  pickK g44 g47 (constE (.bool false)) (put p48 (moveK g48 (put p49 (guard2 (wantG o49 true) (offK 3 g4 (put p50 (dLoad 14 16383 base g50 s fun s => load1K g50 (put p51 (intK gEql (bin TT .eql 3) g51 (constE (.int .i64 (.ofNat 0))) (put p52 ((F23j3 call round K base s)))))))) (put p50 (put p51 (put p52 ((F23j3 call round K base s)) (.tuple [])) (.tuple [])) (.tuple []))))))
def F23j5 (call round : Caller) (K : Nat) (base : Nat) (s : DX) : CF :=
  pickK g39 g42 (constE (.bool false)) (put p43 (moveK g43 (put p44 (guard2 (wantG o44 true) (offK 2 g4 (put p45 (dLoad 9 511 base g45 s fun s => load1K g45 (put p46 (intK gEql (bin TT .eql 3) g46 (constE (.int .i64 (.ofNat 8))) (put p47 ((F23j4 call round K base s)))))))) (put p45 (put p46 (put p47 ((F23j4 call round K base s)) (.tuple [])) (.tuple [])) (.tuple []))))))
def F23j6 (call round : Caller) (K : Nat) : CF :=
  mv g1 p17 (callK call 14 (fun tm => [g17 tm]) (put p18 (callK call 15 (fun tm => [g18 tm, (constE (.int .i64 (.ofNat 0))) tm]) (put p19 (mv g1 p20 (callK call 14 (fun tm => [g20 tm]) (put p21 (callK call 15 (fun tm => [g21 tm, (constE (.int .i64 (.ofNat 8))) tm]) (put p22 (mv g1 p24 (callK call 38 (fun tm => [(constE (.int .u8 (.ofNat 9))) tm]) (put p25 (valK (buildV (nthPR [(0, 1), (1, 1), (2, 1), (3, 1), (4, 1), (5, 1), (6, 32)]) (List.replicate 6 (.int .i64 (.ofNat 0)) ++ List.replicate 32 (.int .u8 (.ofNat 0))) (fun tm => [(0, (constE (.int .i64 (.ofNat 3))) tm), (1, (constE (.int .i64 (.ofNat 1))) tm), (2, (constE (.int .i64 (.ofNat 1))) tm), (6, g25 tm)])) (put p26 (callK call 34 (fun tm => [g24 tm, g26 tm, (constE (.int .i64 (.ofNat 1))) tm, (constE (.int .i64 (.ofNat 1))) tm]) (put p27 (mv g27 p23 (extrK 0 g23 (put p28 (extrK 1 g23 (put p29 (allocK [(.int .i64 (.ofNat 0)), (.int .i64 (.ofNat 0)), (.int .i64 (.ofNat 0)), (.int .i64 (.ofNat 0)), (.int .i64 (.ofNat 0)), (.int .i64 (.ofNat 0))] 83 (put p4 (storeK 6 g4 g28 (dropS (mv g29 p5 (mv g1 p31 (loadNK 6 g4 (put p32 (callK call 41 (fun tm => [g31 tm, g32 tm]) (put p33 (mv g33 p30 (extrK 0 g30 (put p34 (extrK 1 g30 (put p35 (extrK 2 g30 (put p36 (allocK (List.replicate 32 (.int .u8 (.ofNat 0))) 87 (put p6 (storeK 32 g6 g34 (dropS (mv g35 p7 (mv g36 p8 (drawS fun base s => moveK g5 (put p37 (intK gEql (bin TT .eql 28) g37 (constE (.int .i64 (.ofNat 0))) (put p38 (moveK g38 (put p39 (guard2 (wantG o39 true) (offK 1 g4 (put p40 (dLoad 4 15 base g40 s fun s => load1K g40 (put p41 (intK gEql (bin TT .eql 3) g41 (constE (.int .i64 (.ofNat 0))) (put p42 ((F23j5 call round K base s)))))))) (put p40 (put p41 (put p42 ((F23j5 call round K base s)) (.tuple [])) (.tuple [])) (.tuple [])))))))))))))))))))))))))))))))))))))))))))))))))))))
def F23 (call round : Caller) (K : Nat) : FnT := funC 67 (mv (constE (.bool false)) p0 (valK (buildV (nthPR [(0, 1), (1, 1), (2, 1), (3, 1), (4, 1), (5, 1)]) [(.int .i64 (.ofNat 0)), (.int .i64 (.ofNat 0)), (.int .i64 (.ofNat 0)), (.int .i64 (.ofNat 0)), (.int .i64 (.ofNat 0)), (.int .i64 (.ofNat 0))] (fun tm => [(0, (constE (.int .i64 (.ofNat 3))) tm), (1, (constE (.int .i64 (.ofNat 8))) tm), (2, (constE (.int .i64 (.ofNat 8))) tm), (3, (constE (.int .i64 (.ofNat 4))) tm), (5, (constE (.int .i64 (.ofNat 4))) tm)])) (put p10 (callK call 33 (fun tm => [g10 tm]) (put p11 (mv g11 p9 (extrK 0 g9 (put p12 (extrK 1 g9 (put p13 (extrK 2 g9 (put p14 (allocK ([.nilslice] ++ List.replicate 3 (.int .i64 (.ofNat 0)) ++ [(.bool false)] ++ List.replicate 2 .nilslice ++ List.replicate 8 (.int .i64 (.ofNat 0)) ++ List.replicate 2 .nilslice ++ List.replicate 3 (.int .i64 (.ofNat 0))) 42 (put p2 (mv g12 p1 (storeK 20 g2 g13 (dropS (mv g14 p3 (mv g3 p15 (notK g15 (put p16 (condC g16 (mv (constE (.bool false)) p0 (F23ret)) ((F23j6 call round K))))))))))))))))))))))))
theorem F23_eq (call round : Caller) (K : Nat) : funF TT call round K 23 = F23 call round K := by kernel_rfl
/-! 24 revetment/plan.New -/
def F24ret : CF := (ret2 g6 g7)
def F24j0 (call round : Caller) (K : Nat) : CF :=
  mv g8 p20 (slowK makeMapM (put p21 (valK (buildV (nthPR [(0, 1), (1, 1), (2, 1), (3, 1)]) [.nilptr, .nilslice, .nilslice, .nilmap] (fun tm => [(0, g20 tm), (3, g21 tm)])) (put p22 (boxK 166 g22 (put p23 (mv g23 p6 (mv (constE (.int .i64 (.ofNat 0))) p7 (F24ret)))))))))
def F24 (call round : Caller) (K : Nat) : FnT := funC 24 (mv (constE .nilptr) p6 (mv (constE (.int .i64 (.ofNat 0))) p7 (mv g0 p11 (mv g1 p12 (mv g2 p13 (callK call 72 (fun tm => [g11 tm, g12 tm, g13 tm]) (put p14 (mv g14 p10 (extrK 0 g10 (put p15 (extrK 1 g10 (put p16 (mv g15 p8 (mv g16 p9 (mv g9 p17 (intK gNeq (bin TT .neq 28) g17 (constE (.int .i64 (.ofNat 0))) (put p18 (condC g18 (mv g9 p19 (mv (constE .nilptr) p6 (mv g19 p7 (F24ret)))) ((F24j0 call round K))))))))))))))))))))
theorem F24_eq (call round : Caller) (K : Nat) : funF TT call round K 24 = F24 call round K := by kernel_rfl
/-! 25 revetment/mirror.New -/
def F25ret : CF := (ret2 g6 g7)
def F25j0 (call round : Caller) (K : Nat) : CF :=
  drawS fun base s => moveK g0 (put p33 (dLoad 1 0 base g4 s fun s => loadNK 6 g4 (put p34 (dLoad 2 0 base g5 s fun s => loadNK 256 g5 (put p35 (moveK g8 (put p36 (dLoad 4 0 base g4 s fun s => loadNK 6 g4 (put p37 (dBig 5 16 s (fun k => callK call 63 (fun tm => [g37 tm]) (k)) fun s => put p38 (dNew 6 s fun s => slowK (makeSliceM [(.int .i64 (.ofNat 0))] 3 g38 g38) (put p39 (valK (buildV (nthPR [(0, 1), (1, 6), (7, 256), (263, 1), (264, 1), (265, 1), (266, 1), (267, 1)]) ([.nilptr] ++ List.replicate 6 (.int .i64 (.ofNat 0)) ++ List.replicate 256 (.int .u32 (.ofNat 0)) ++ [.nilptr] ++ [.nilslice] ++ List.replicate 3 (.int .i64 (.ofNat 0))) (fun tm => [(0, g33 tm), (1, g34 tm), (2, g35 tm), (3, g36 tm), (4, g39 tm), (5, (constE (.int .i64 (.negSucc 0))) tm), (6, (constE (.int .i64 (.negSucc 0))) tm)])) (put p40 (dNew 8 s fun s => boxK 149 g40 (put p41 (moveK g41 (put p6 (moveK (constE (.int .i64 (.ofNat 0))) (put p7 (F25ret)))))))))))))))))))))
def F25j1 (call round : Caller) (K : Nat) (base : Nat) (s : DX) : CF :=
  pickK g25 (constE (.bool true)) g31 (put p32 (condC g32 (mv (constE .nilptr) p6 (mv (constE (.int .i64 (.ofNat 20))) p7 (F25ret))) ((F25j0 call round K))))
def F25j2 (call round : Caller) (K : Nat) (base : Nat) (s : DX) : CF :=
  pickK g17 (constE (.bool true)) g23 (put p24 (moveK g24 (put p25 (guard2 (wantG o25 false) (moveK g0 (put p26 (dBig 12 4095 s (fun k => callK call 36 (fun tm => [g26 tm]) (k)) fun s => put p27 (dBig 13 8191 s (fun k => callK call 75 (fun tm => [g27 tm]) (k)) fun s => put p28 (offK 2 g4 (put p29 (dLoad 15 18431 base g29 s fun s => load1K g29 (put p30 (intK gNeq (bin TT .neq 3) g28 g30 (put p31 ((F25j1 call round K base s)))))))))))) (put p26 (put p27 (put p28 (put p29 (put p30 (put p31 ((F25j1 call round K base s)) (.tuple [])) (.tuple [])) (.tuple [])) (.tuple [])) (.tuple [])) (.tuple []))))))
def F25 (call round : Caller) (K : Nat) : FnT := funC 42 (boxK 23 g1 (put p4 (boxK 72 g2 (put p5 (mv (constE .nilptr) p6 (mv (constE (.int .i64 (.ofNat 0))) p7 (loadNK 6 g4 (put p11 (callK call 73 (fun tm => [g11 tm]) (put p12 (mv g12 p10 (extrK 0 g10 (put p13 (extrK 1 g10 (put p14 (mv g13 p8 (mv g14 p9 (drawS fun base s => moveK g9 (put p15 (intK gNeq (bin TT .neq 28) g15 (constE (.int .i64 (.ofNat 0))) (put p16 (moveK g16 (put p17 (guard2 (wantG o17 false) (moveK g0 (put p18 (dBig 4 15 s (fun k => callK call 36 (fun tm => [g18 tm]) (k)) fun s => put p19 (dBig 5 31 s (fun k => callK call 74 (fun tm => [g19 tm]) (k)) fun s => put p20 (dLoad 6 7 base g4 s fun s => loadNK 6 g4 (put p21 (dBig 7 127 s (fun k => callK call 63 (fun tm => [g21 tm]) (k)) fun s => put p22 (intK gNeq (bin TT .neq 3) g20 g22 (put p23 ((F25j2 call round K base s))))))))))) (put p18 (put p19 (put p20 (put p21 (put p22 (put p23 ((F25j2 call round K base s)) (.tuple [])) (.tuple [])) (.tuple [])) (.tuple [])) (.tuple [])) (.tuple []))))))))))))))))))))))))))
theorem F25_eq (call round : Caller) (K : Nat) : funF TT call round K 25 = F25 call round K := by kernel_rfl
/-! 26 revetment/crc.New -/
def F26ret : CF := (retC TT [.cell 0 72])
def F26j0 (call round : Caller) (K : Nat) : CF :=
  loadNK 256 g1 (put p25 (storeK 256 g0 g25 (dropS (F26ret))))
def F26j2 (call round : Caller) (K : Nat) (ih1_ : CF) : CF :=
  intK gAdd (bin TT .add 3) g5 (constE (.int .i64 (.ofNat 1))) (put p24 (mv g24 p5 (ih1_)))
def F26j3 (call round : Caller) (K : Nat) (ih1_ : CF) : CF :=
  mv g2 p21 (mv g3 p22 (ixArrK 256 1 g1 g21 (put p23 (storeK 1 g23 g22 (dropS ((F26j2 call round K ih1_)))))))
def F26j5 (call round : Caller) (K : Nat) (ih1_ : CF) (ih4_ : CF) : CF :=
  intK gAdd (bin TT .add 3) g10 (constE (.int .i64 (.ofNat 1))) (put p20 (mv g20 p10 (ih4_)))
def F26j6 (call round : Caller) (K : Nat) (ih1_ : CF) (ih4_ : CF) : CF :=
  mv g3 p12 (binK (bin TT .and 70) g12 (constE (.int .u32 (.ofNat 1))) (put p13 (mv g13 p4 (mv g3 p14 (binK (bin TT .shr 70) g14 (constE (.int .u64 (.ofNat 1))) (put p15 (mv g15 p3 (mv g4 p16 (intK gEql (bin TT .eql 70) g16 (constE (.int .u32 (.ofNat 1))) (put p17 (condC g17 (mv g3 p18 (binK (bin TT .xor 70) g18 (constE (.int .u32 (.ofNat 2197175160))) (put p19 (mv g19 p3 ((F26j5 call round K ih1_ ih4_)))))) ((F26j5 call round K ih1_ ih4_)))))))))))))
def F26b7 (call round : Caller) (K : Nat) (ih1_ : CF) (ih4_ : CF) : CF :=
  intK gLss (bin TT .lss 3) g10 (constE (.int .i64 (.ofNat 8))) (put p11 (condC g11 ((F26j6 call round K ih1_ ih4_)) ((F26j3 call round K ih1_))))
def F26j8 (call round : Caller) (K : Nat) (ih1_ : CF) : CF :=
  mv g5 p7 (mv g7 p2 (mv g2 p8 (convK .u32 g8 (put p9 (mv g9 p3 (mv (constE (.int .i64 (.ofNat 0))) p10 (loopC (F26b7 call round K ih1_) K)))))))
def F26b9 (call round : Caller) (K : Nat) (ih1_ : CF) : CF :=
  intK gLss (bin TT .lss 3) g5 (constE (.int .i64 (.ofNat 256))) (put p6 (condC g6 ((F26j8 call round K ih1_)) ((F26j0 call round K))))
def F26 (call round : Caller) (K : Nat) : FnT := funC 26 (allocK (List.replicate 256 (.int .u32 (.ofNat 0))) 72 (put p0 (allocK (List.replicate 256 (.int .u32 (.ofNat 0))) 72 (put p1 (mv (constE (.int .i64 (.ofNat 0))) p5 (loopC (F26b9 call round K) K))))))
theorem F26_eq (call round : Caller) (K : Nat) : funF TT call round K 26 = F26 call round K := by kernel_rfl
/-! 27 (revetment/revetmentref05.G).Right -/
def F27ret : CF := (ret1 g2)
def F27j0 (call round : Caller) (K : Nat) (base : Nat) (s : DX) : CF :=
  pickK g66 g75 (constE (.bool false)) (put p76 (moveK g76 (put p2 (F27ret))))
def F27j1 (call round : Caller) (K : Nat) : CF :=
  drawS fun base s => dLoad 0 0 base g1 s fun s => loadNK 6 g1 (put p61 (dBig 1 1 s (fun k => callK call 76 (fun tm => [g61 tm]) (k)) fun s => put p62 (offK 2 g1 (put p63 (dLoad 3 4 base g63 s fun s => load1K g63 (put p64 (intK gLeq (bin TT .leq 3) g62 g64 (put p65 (moveK g65 (put p66 (guard2 (wantG o66 true) (offK 3 g1 (put p67 (dLoad 7 127 base g67 s fun s => load1K g67 (put p68 (intK gMul (bin TT .mul 3) (constE (.int .i64 (.ofNat 2))) g68 (put p69 (offK 2 g1 (put p70 (dLoad 10 575 base g70 s fun s => load1K g70 (put p71 (dLoad 11 63 base g1 s fun s => loadNK 6 g1 (put p72 (dBig 12 2111 s (fun k => callK call 77 (fun tm => [g72 tm]) (k)) fun s => put p73 (intK gMul (bin TT .mul 3) g71 g73 (put p74 (intK gLeq (bin TT .leq 3) g69 g74 (put p75 ((F27j0 call round K base s))))))))))))))))))) (put p67 (put p68 (put p69 (put p70 (put p71 (put p72 (put p73 (put p74 (put p75 ((F27j0 call round K base s)) (.tuple [])) (.tuple [])) (.tuple [])) (.tuple [])) (.tuple [])) (.tuple [])) (.tuple [])) (.tuple [])) (.tuple [])))))))))))))
def F27j2 (call round : Caller) (K : Nat) : CF :=
  pickK g56 (constE (.bool true)) g59 (put p60 (condC g60 (mv (constE (.bool false)) p2 (F27ret)) ((F27j1 call round K))))
def F27j3 (call round : Caller) (K : Nat) : CF :=
  pickK g51 (constE (.bool true)) g54 (put p55 (mv g55 p56 (guard2 (wantG o56 false) (offK 5 g1 (put p57 (load1K g57 (put p58 (intK gGtr (bin TT .gtr 3) g58 (constE (.int .i64 (.ofNat 64))) (put p59 ((F27j2 call round K)))))))) (put p57 (put p58 (put p59 ((F27j2 call round K)) (.tuple [])) (.tuple [])) (.tuple [])))))
def F27j4 (call round : Caller) (K : Nat) : CF :=
  pickK g46 (constE (.bool true)) g49 (put p50 (mv g50 p51 (guard2 (wantG o51 false) (offK 5 g1 (put p52 (load1K g52 (put p53 (intK gLss (bin TT .lss 3) g53 (constE (.int .i64 (.ofNat 4))) (put p54 ((F27j3 call round K)))))))) (put p52 (put p53 (put p54 ((F27j3 call round K)) (.tuple [])) (.tuple [])) (.tuple [])))))
def F27j5 (call round : Caller) (K : Nat) : CF :=
  pickK g41 (constE (.bool true)) g44 (put p45 (mv g45 p46 (guard2 (wantG o46 false) (offK 4 g1 (put p47 (load1K g47 (put p48 (intK gGtr (bin TT .gtr 3) g48 (constE (.int .i64 (.ofNat 4))) (put p49 ((F27j4 call round K)))))))) (put p47 (put p48 (put p49 ((F27j4 call round K)) (.tuple [])) (.tuple [])) (.tuple [])))))
def F27j6 (call round : Caller) (K : Nat) : CF :=
  pickK g36 (constE (.bool true)) g39 (put p40 (mv g40 p41 (guard2 (wantG o41 false) (offK 4 g1 (put p42 (load1K g42 (put p43 (intK gLss (bin TT .lss 3) g43 (constE (.int .i64 (.ofNat 0))) (put p44 ((F27j5 call round K)))))))) (put p42 (put p43 (put p44 ((F27j5 call round K)) (.tuple [])) (.tuple [])) (.tuple [])))))
def F27j7 (call round : Caller) (K : Nat) : CF :=
  pickK g31 (constE (.bool true)) g34 (put p35 (mv g35 p36 (guard2 (wantG o36 false) (offK 3 g1 (put p37 (load1K g37 (put p38 (intK gGtr (bin TT .gtr 3) g38 (constE (.int .i64 (.ofNat 256))) (put p39 ((F27j6 call round K)))))))) (put p37 (put p38 (put p39 ((F27j6 call round K)) (.tuple [])) (.tuple [])) (.tuple [])))))
def F27j8 (call round : Caller) (K : Nat) : CF :=
  pickK g26 (constE (.bool true)) g29 (put p30 (mv g30 p31 (guard2 (wantG o31 false) (offK 3 g1 (put p32 (load1K g32 (put p33 (intK gLss (bin TT .lss 3) g33 (constE (.int .i64 (.ofNat 1))) (put p34 ((F27j7 call round K)))))))) (put p32 (put p33 (put p34 ((F27j7 call round K)) (.tuple [])) (.tuple [])) (.tuple [])))))
def F27j9 (call round : Caller) (K : Nat) : CF :=
  pickK g21 (constE (.bool true)) g24 (put p25 (mv g25 p26 (guard2 (wantG o26 false) (offK 2 g1 (put p27 (load1K g27 (put p28 (intK gGtr (bin TT .gtr 3) g28 (constE (.int .i64 (.ofNat 64))) (put p29 ((F27j8 call round K)))))))) (put p27 (put p28 (put p29 ((F27j8 call round K)) (.tuple [])) (.tuple [])) (.tuple [])))))
def F27j10 (call round : Caller) (K : Nat) : CF :=
  pickK g16 (constE (.bool true)) g19 (put p20 (mv g20 p21 (guard2 (wantG o21 false) (offK 2 g1 (put p22 (load1K g22 (put p23 (intK gLss (bin TT .lss 3) g23 (constE (.int .i64 (.ofNat 4))) (put p24 ((F27j9 call round K)))))))) (put p22 (put p23 (put p24 ((F27j9 call round K)) (.tuple [])) (.tuple [])) (.tuple [])))))
def F27j11 (call round : Caller) (K : Nat) : CF :=
  pickK g11 (constE (.bool true)) g14 (put p15 (mv g15 p16 (guard2 (wantG o16 false) (offK 1 g1 (put p17 (load1K g17 (put p18 (intK gGtr (bin TT .gtr 3) g18 (constE (.int .i64 (.ofNat 64))) (put p19 ((F27j10 call round K)))))))) (put p17 (put p18 (put p19 ((F27j10 call round K)) (.tuple [])) (.tuple [])) (.tuple [])))))
def F27j12 (call round : Caller) (K : Nat) : CF :=
  pickK g6 (constE (.bool true)) g9 (put p10 (mv g10 p11 (guard2 (wantG o11 false) (offK 1 g1 (put p12 (load1K g12 (put p13 (intK gLss (bin TT .lss 3) g13 (constE (.int .i64 (.ofNat 1))) (put p14 ((F27j11 call round K)))))))) (put p12 (put p13 (put p14 ((F27j11 call round K)) (.tuple [])) (.tuple [])) (.tuple [])))))
def F27 (call round : Caller) (K : Nat) : FnT := funC 77 (boxK 37 g0 (put p1 (mv (constE (.bool false)) p2 (offK 0 g1 (put p3 (load1K g3 (put p4 (intK gLss (bin TT .lss 3) g4 (constE (.int .i64 (.ofNat 3))) (put p5 (mv g5 p6 (guard2 (wantG o6 false) (offK 0 g1 (put p7 (load1K g7 (put p8 (intK gGtr (bin TT .gtr 3) g8 (constE (.int .i64 (.ofNat 8))) (put p9 ((F27j12 call round K)))))))) (put p7 (put p8 (put p9 ((F27j12 call round K)) (.tuple [])) (.tuple [])) (.tuple [])))))))))))))
theorem F27_eq (call round : Caller) (K : Nat) : funF TT call round K 27 = F27 call round K := by kernel_rfl
/-! 28 (*revetment/mirror.Mirror).Open -/
def F28ret : CF := (retC TT [.tmp 2, .tmp 3, .tmp 4])
def F28 (call round : Caller) (K : Nat) : FnT := funC 17 (mv (constE (.int .i64 (.ofNat 0))) p2 (mv (constE (.int .i64 (.ofNat 0))) p3 (mv (constE (.int .i64 (.ofNat 0))) p4 (mv g0 p5 (nilK g5 (put p6 (offK 265 g6 (put p7 (load1K g7 (put p8 (mv g0 p9 (nilK g9 (put p10 (offK 266 g10 (put p11 (load1K g11 (put p12 (mv g0 p13 (nilK g13 (put p14 (offK 267 g14 (put p15 (load1K g15 (put p16 (mv g8 p2 (mv g12 p3 (mv g16 p4 (F28ret))))))))))))))))))))))))))))
theorem F28_eq (call round : Caller) (K : Nat) : funF TT call round K 28 = F28 call round K := by kernel_rfl
/-! 29 (*revetment/pool.Pool).Pairs -/
def F29ret : CF := (ret1 g2)
def F29j0 (call round : Caller) (K : Nat) : CF :=
  mv g3 p20 (binK (bin TT .quo 3) g20 (constE (.int .i64 (.ofNat 2))) (put p21 (mv g3 p22 (mv g0 p23 (mv g0 p24 (callK call 78 (fun tm => [g24 tm, (constE (.int .i64 (.negSucc 0))) tm]) (put p25 (callK call 22 (fun tm => [g23 tm, g25 tm]) (put p26 (intK gSub (bin TT .sub 3) g22 g26 (put p27 (slowK (builtinM TT .min #[3, 3] (fun tm => [g21 tm, g27 tm])) (put p28 (mv g28 p2 (F29ret)))))))))))))))
def F29j2 (call round : Caller) (K : Nat) (ih1_ : CF) : CF :=
  intK gAdd (bin TT .add 3) g11 (constE (.int .i64 (.ofNat 1))) (put p19 (mv g19 p11 (ih1_)))
def F29j3 (call round : Caller) (K : Nat) (ih1_ : CF) : CF :=
  ixSliK 1 g9 g11 (put p13 (load1K g13 (put p14 (mv g14 p5 (mv g3 p15 (mv g5 p16 (callK call 71 (fun tm => [g16 tm]) (put p17 (intK gAdd (bin TT .add 3) g15 g17 (put p18 (mv g18 p3 ((F29j2 call round K ih1_)))))))))))))
def F29b4 (call round : Caller) (K : Nat) (ih1_ : CF) : CF :=
  intK gLss (bin TT .lss 3) g11 g10 (put p12 (condC g12 ((F29j3 call round K ih1_)) ((F29j0 call round K))))
def F29 (call round : Caller) (K : Nat) : FnT := funC 29 (mv (constE (.int .i64 (.ofNat 0))) p2 (mv (constE (.int .i64 (.ofNat 0))) p3 (mv g0 p6 (nilK g6 (put p7 (offK 6 g7 (put p8 (load1K g8 (put p9 (lenK g9 (put p10 (mv (constE (.int .i64 (.ofNat 0))) p11 (loopC (F29b4 call round K) K)))))))))))))
theorem F29_eq (call round : Caller) (K : Nat) : funF TT call round K 29 = F29 call round K := by kernel_rfl
/-! 30 (*revetment/mirror.Mirror).Geom -/
def F30ret : CF := (retC TT [.cell 2 23])
def F30 (call round : Caller) (K : Nat) : FnT := funC 7 (allocK [(.int .i64 (.ofNat 0)), (.int .i64 (.ofNat 0)), (.int .i64 (.ofNat 0)), (.int .i64 (.ofNat 0)), (.int .i64 (.ofNat 0)), (.int .i64 (.ofNat 0))] 23 (put p2 (mv g0 p3 (nilK g3 (put p4 (offK 1 g4 (put p5 (loadNK 6 g5 (put p6 (storeK 6 g2 g6 (dropS (F30ret))))))))))))
theorem F30_eq (call round : Caller) (K : Nat) : funF TT call round K 30 = F30 call round K := by kernel_rfl
/-! 31 (*revetment/mirror.Mirror).Drive -/
def F31ret : CF := (ret1 g2)
def F31 (call round : Caller) (K : Nat) : FnT := funC 7 (mv (constE .nilptr) p2 (mv g0 p3 (nilK g3 (put p4 (offK 0 g4 (put p5 (load1K g5 (put p6 (mv g6 p2 (F31ret))))))))))
theorem F31_eq (call round : Caller) (K : Nat) : funF TT call round K 31 = F31 call round K := by kernel_rfl
/-! 32 (*revetment/mirror.Mirror).Table -/
def F32ret : CF := (retC TT [.cell 2 72])
def F32 (call round : Caller) (K : Nat) : FnT := funC 7 (allocK (List.replicate 256 (.int .u32 (.ofNat 0))) 72 (put p2 (mv g0 p3 (nilK g3 (put p4 (offK 7 g4 (put p5 (loadNK 256 g5 (put p6 (storeK 256 g2 g6 (dropS (F32ret))))))))))))
theorem F32_eq (call round : Caller) (K : Nat) : funF TT call round K 32 = F32 call round K := by kernel_rfl
/-! 33 revetment/revetmentlaw14.started -/
def F33ret : CF := (retC TT [.tmp 2, .cell 3 42, .tmp 4])
def F33j0 (call round : Caller) (K : Nat) : CF :=
  drawS fun base s => moveK g8 (put p53 (offK 0 g1 (put p54 (dLoad 2 2 base g54 s fun s => load1K g54 (put p55 (offK 1 g1 (put p56 (dLoad 4 8 base g56 s fun s => load1K g56 (put p57 (intK gMul (bin TT .mul 3) g55 g57 (put p58 (offK 2 g1 (put p59 (dLoad 7 64 base g59 s fun s => load1K g59 (put p60 (offK 5 g1 (put p61 (dLoad 9 256 base g61 s fun s => load1K g61 (put p62 (dBig 10 1022 s (fun k => callK call 55 (fun tm => [g58 tm, g60 tm, g62 tm]) (k)) fun s => put p63 (valK (buildV (nthPR [(0, 5), (5, 1), (6, 1)]) [.nilslice, (.int .i64 (.ofNat 0)), (.int .i64 (.ofNat 0)), (.int .i64 (.ofNat 0)), (.bool false), .nilslice, .nilslice] (fun tm => [(0, g63 tm)])) (put p64 (dLoad 12 0 base g5 s fun s => loadNK 6 g5 (put p65 (dBig 13 8190 s (fun k => callK call 54 (fun tm => [g64 tm, g65 tm]) (k)) fun s => put p66 (moveK g53 (put p2 (dSto 15 32767 g3 s fun s => storeK 20 g3 g66 (dropS (moveK (constE (.bool true)) (put p4 (F33ret))))))))))))))))))))))))))))))))
def F33j1 (call round : Caller) (K : Nat) : CF :=
  pickK g48 (constE (.bool true)) g50 (put p51 (condC g51 (valK (buildV (nthPR [(0, 7), (7, 6), (13, 3), (16, 1), (17, 1), (18, 1), (19, 1)]) ([.nilslice] ++ List.replicate 3 (.int .i64 (.ofNat 0)) ++ [(.bool false)] ++ List.replicate 2 .nilslice ++ List.replicate 8 (.int .i64 (.ofNat 0)) ++ List.replicate 2 .nilslice ++ List.replicate 3 (.int .i64 (.ofNat 0))) (fun tm => [])) (put p52 (mv (constE .nilptr) p2 (storeK 20 g3 g52 (dropS (mv (constE (.bool false)) p4 (F33ret))))))) ((F33j0 call round K))))
def F33j2 (call round : Caller) (K : Nat) : CF :=
  drawS fun base s => moveK g6 (put p40 (dLoad 1 0 base g1 s fun s => loadNK 6 g1 (put p41 (dBig 2 0 s (fun k => callK call 26 (fun tm => []) (k)) fun s => put p42 (dBig 3 7 s (fun k => callK call 25 (fun tm => [g40 tm, g41 tm, g42 tm]) (k)) fun s => put p43 (moveK g43 (put p39 (extrK 0 g39 (put p44 (extrK 1 g39 (put p45 (moveK g44 (put p8 (moveK g45 (put p9 (mv g9 p46 (intK gNeq (bin TT .neq 28) g46 (constE (.int .i64 (.ofNat 0))) (put p47 (mv g47 p48 (guard2 (wantG o48 false) (mv g8 p49 (intK gEql (bin TT .eql 29) g49 (constE .nilptr) (put p50 ((F33j1 call round K))))) (put p49 (put p50 ((F33j1 call round K)) (.tuple [])) (.tuple []))))))))))))))))))))))
def F33j3 (call round : Caller) (K : Nat) : CF :=
  offK 0 g1 (put p24 (load1K g24 (put p25 (offK 1 g1 (put p26 (load1K g26 (put p27 (intK gMul (bin TT .mul 3) g25 g27 (put p28 (offK 2 g1 (put p29 (load1K g29 (put p30 (offK 5 g1 (put p31 (load1K g31 (put p32 (callK call 24 (fun tm => [g28 tm, g30 tm, g32 tm]) (put p33 (mv g33 p23 (extrK 0 g23 (put p34 (extrK 1 g23 (put p35 (mv g34 p6 (mv g35 p7 (mv g7 p36 (intK gNeq (bin TT .neq 28) g36 (constE (.int .i64 (.ofNat 0))) (put p37 (condC g37 (valK (buildV (nthPR [(0, 7), (7, 6), (13, 3), (16, 1), (17, 1), (18, 1), (19, 1)]) ([.nilslice] ++ List.replicate 3 (.int .i64 (.ofNat 0)) ++ [(.bool false)] ++ List.replicate 2 .nilslice ++ List.replicate 8 (.int .i64 (.ofNat 0)) ++ List.replicate 2 .nilslice ++ List.replicate 3 (.int .i64 (.ofNat 0))) (fun tm => [])) (put p38 (mv (constE .nilptr) p2 (storeK 20 g3 g38 (dropS (mv (constE (.bool false)) p4 (F33ret))))))) ((F33j2 call round K))))))))))))))))))))))))))))))))
def F33j4 (call round : Caller) (K : Nat) : CF :=
  pickK g14 (constE (.bool true)) g20 (put p21 (condC g21 (valK (buildV (nthPR [(0, 7), (7, 6), (13, 3), (16, 1), (17, 1), (18, 1), (19, 1)]) ([.nilslice] ++ List.replicate 3 (.int .i64 (.ofNat 0)) ++ [(.bool false)] ++ List.replicate 2 .nilslice ++ List.replicate 8 (.int .i64 (.ofNat 0)) ++ List.replicate 2 .nilslice ++ List.replicate 3 (.int .i64 (.ofNat 0))) (fun tm => [])) (put p22 (mv (constE .nilptr) p2 (storeK 20 g3 g22 (dropS (mv (constE (.bool false)) p4 (F33ret))))))) ((F33j3 call round K))))
def F33 (call round : Caller) (K : Nat) : FnT := funC 67 (boxK 23 g0 (put p1 (mv (constE .nilptr) p2 (allocK ([.nilslice] ++ List.replicate 3 (.int .i64 (.ofNat 0)) ++ [(.bool false)] ++ List.replicate 2 .nilslice ++ List.replicate 8 (.int .i64 (.ofNat 0)) ++ List.replicate 2 .nilslice ++ List.replicate 3 (.int .i64 (.ofNat 0))) 42 (put p3 (mv (constE (.bool false)) p4 (loadNK 6 g1 (put p10 (allocK [(.int .i64 (.ofNat 0)), (.int .i64 (.ofNat 0)), (.int .i64 (.ofNat 0)), (.int .i64 (.ofNat 0)), (.int .i64 (.ofNat 0)), (.int .i64 (.ofNat 0))] 37 (put p5 (storeK 6 g5 g10 (dropS (loadNK 6 g5 (put p11 (callK call 27 (fun tm => [g11 tm]) (put p12 (notK g12 (put p13 (mv g13 p14 (guard2 (wantG o14 false) (offK 0 g1 (put p15 (load1K g15 (put p16 (offK 1 g1 (put p17 (load1K g17 (put p18 (intK gMul (bin TT .mul 3) g16 g18 (put p19 (intK gGtr (bin TT .gtr 3) g19 (constE (.int .i64 (.ofNat 64))) (put p20 ((F33j4 call round K)))))))))))))) (put p15 (put p16 (put p17 (put p18 (put p19 (put p20 ((F33j4 call round K)) (.tuple [])) (.tuple [])) (.tuple [])) (.tuple [])) (.tuple [])) (.tuple []))))))))))))))))))))))
theorem F33_eq (call round : Caller) (K : Nat) : funF TT call round K 33 = F33 call round K := by kernel_rfl
/-! 34 (*revetment/mirror.Mirror).Place -/
def F34ret : CF := (retC TT [.cell 8 83, .tmp 9])
def F34j1 (call round : Caller) (K : Nat) (ih0_ : CF) : CF :=
  mv g0 p91 (mv g13 p92 (callK call 20 (fun tm => [g91 tm, g92 tm]) (put p93 (intK gEql (bin TT .eql 28) g93 (constE (.int .i64 (.ofNat 34))) (put p94 (condC g94 (valK (buildV (nthPR [(0, 1), (1, 1), (2, 1), (3, 1), (4, 1), (5, 1)]) [(.int .i64 (.ofNat 0)), (.int .i64 (.ofNat 0)), (.int .i64 (.ofNat 0)), (.int .i64 (.ofNat 0)), (.int .i64 (.ofNat 0)), (.int .i64 (.ofNat 0))] (fun tm => [])) (put p95 (storeK 6 g8 g95 (dropS (mv (constE (.int .i64 (.ofNat 34))) p9 (F34ret)))))) (ih0_)))))))
def F34j2 (call round : Caller) (K : Nat) (ih0_ : CF) : CF :=
  mv g13 p78 (mv g0 p79 (nilK g79 (put p80 (offK 266 g80 (put p81 (load1K g81 (put p82 (intK gEql (bin TT .eql 3) g78 g82 (put p83 (condC g83 (mv g0 p84 (nilK g84 (put p85 (offK 267 g85 (put p86 (load1K g86 (put p87 (intK gAdd (bin TT .add 3) g87 (constE (.int .i64 (.ofNat 1))) (put p88 (nilK g84 (put p89 (offK 267 g89 (put p90 (storeK 1 g90 g88 (dropS ((F34j1 call round K ih0_))))))))))))))))) ((F34j1 call round K ih0_))))))))))))
def F34j3 (call round : Caller) (K : Nat) (ih0_ : CF) : CF :=
  mv g0 p34 (loadNK 38 g5 (put p35 (mv g2 p36 (mv g3 p37 (callK call 81 (fun tm => [g34 tm, g35 tm, g36 tm, g37 tm]) (put p38 (mv g38 p33 (extrK 0 g33 (put p39 (extrK 1 g33 (put p40 (mv g39 p13 (mv g40 p14 (mv g14 p41 (intK gEql (bin TT .eql 28) g41 (constE (.int .i64 (.ofNat 0))) (put p43 (mv g43 p42 (condC g42 (drawS fun base s => moveK g0 (put p44 (nilK g44 (put p45 (offK 265 g45 (put p46 (dLoad 3 7 base g46 s fun s => load1K g46 (put p47 (moveK g0 (put p48 (nilK g48 (put p49 (offK 266 g49 (put p50 (dLoad 7 112 base g50 s fun s => load1K g50 (put p51 (moveK g0 (put p52 (nilK g52 (put p53 (offK 267 g53 (put p54 (dLoad 11 1792 base g54 s fun s => load1K g54 (put p55 (moveK g3 (put p56 (moveK g0 (put p57 (nilK g57 (put p58 (offK 7 g58 (put p59 (dLoad 16 57344 base g59 s fun s => loadNK 256 g59 (put p60 (offK 6 g5 (put p61 (valK (sliArrV 32 1 g61 (fun _ => none) (fun _ => none) (fun _ => none)) (put p62 (dBig 19 516096 s (fun k => callK call 82 (fun tm => [g60 tm, g62 tm]) (k)) fun s => put p63 (convK .i64 g63 (put p64 (valK (buildV (nthPR [(0, 1), (1, 1), (2, 1), (3, 1), (4, 1), (5, 1)]) [(.int .i64 (.ofNat 0)), (.int .i64 (.ofNat 0)), (.int .i64 (.ofNat 0)), (.int .i64 (.ofNat 0)), (.int .i64 (.ofNat 0)), (.int .i64 (.ofNat 0))] (fun tm => [(0, (constE (.int .i64 (.ofNat 1))) tm), (1, g47 tm), (2, g51 tm), (3, g55 tm), (4, g56 tm), (5, g64 tm)])) (put p65 (dNew 22 s fun s => allocK [(.int .i64 (.ofNat 0)), (.int .i64 (.ofNat 0)), (.int .i64 (.ofNat 0)), (.int .i64 (.ofNat 0)), (.int .i64 (.ofNat 0)), (.int .i64 (.ofNat 0))] 83 (put p15 (dSto 23 8388607 g15 s fun s => storeK 6 g15 g65 (dropS (mv g0 p66 (nilK g66 (put p67 (offK 267 g67 (put p68 (load1K g68 (put p69 (intK gAdd (bin TT .add 3) g69 (constE (.int .i64 (.ofNat 1))) (put p70 (nilK g66 (put p71 (offK 267 g71 (put p72 (storeK 1 g72 g70 (dropS (loadNK 6 g15 (put p73 (storeK 6 g8 g73 (dropS (mv (constE (.int .i64 (.ofNat 0))) p9 (F34ret)))))))))))))))))))))))))))))))))))))))))))))))))))))))))))))))))))) (intK gEql (bin TT .eql 28) g41 (constE (.int .i64 (.ofNat 34))) (put p75 (mv g75 p74 (condC g74 (valK (buildV (nthPR [(0, 1), (1, 1), (2, 1), (3, 1), (4, 1), (5, 1)]) [(.int .i64 (.ofNat 0)), (.int .i64 (.ofNat 0)), (.int .i64 (.ofNat 0)), (.int .i64 (.ofNat 0)), (.int .i64 (.ofNat 0)), (.int .i64 (.ofNat 0))] (fun tm => [])) (put p76 (mv g14 p77 (storeK 6 g8 g76 (dropS (mv g77 p9 (F34ret))))))) ((F34j2 call round K ih0_))))))))))))))))))))))))
def F34b4 (call round : Caller) (K : Nat) (ih0_ : CF) : CF :=
  mv g0 p27 (callK call 80 (fun tm => [g27 tm]) (put p28 (mv g28 p12 (mv g12 p29 (intK gNeq (bin TT .neq 28) g29 (constE (.int .i64 (.ofNat 0))) (put p30 (condC g30 (valK (buildV (nthPR [(0, 1), (1, 1), (2, 1), (3, 1), (4, 1), (5, 1)]) [(.int .i64 (.ofNat 0)), (.int .i64 (.ofNat 0)), (.int .i64 (.ofNat 0)), (.int .i64 (.ofNat 0)), (.int .i64 (.ofNat 0)), (.int .i64 (.ofNat 0))] (fun tm => [])) (put p31 (mv g12 p32 (storeK 6 g8 g31 (dropS (mv g32 p9 (F34ret))))))) ((F34j3 call round K ih0_)))))))))
def F34j5 (call round : Caller) (K : Nat) : CF :=
  loopC (F34b4 call round K) K
def F34 (call round : Caller) (K : Nat) : FnT := funC 96 (boxK 89 g1 (put p5 (allocK [(.int .i64 (.ofNat 0)), (.int .i64 (.ofNat 0)), (.int .i64 (.ofNat 0)), (.int .i64 (.ofNat 0)), (.int .i64 (.ofNat 0)), (.int .i64 (.ofNat 0))] 83 (put p8 (mv (constE (.int .i64 (.ofNat 0))) p9 (loadNK 38 g5 (put p17 (mv g2 p18 (mv g3 p19 (callK call 79 (fun tm => [g17 tm, (constE (.int .i64 (.ofNat 0))) tm, (constE (.int .i64 (.ofNat 0))) tm, g18 tm, g19 tm]) (put p20 (mv g20 p16 (extrK 0 g16 (put p21 (extrK 1 g16 (put p22 (allocK (List.replicate 5 (.int .i64 (.ofNat 0)) ++ List.replicate 44 (.int .u8 (.ofNat 0))) 120 (put p10 (storeK 49 g10 g21 (dropS (mv g22 p11 (mv g11 p23 (intK gNeq (bin TT .neq 28) g23 (constE (.int .i64 (.ofNat 0))) (put p24 (condC g24 (valK (buildV (nthPR [(0, 1), (1, 1), (2, 1), (3, 1), (4, 1), (5, 1)]) [(.int .i64 (.ofNat 0)), (.int .i64 (.ofNat 0)), (.int .i64 (.ofNat 0)), (.int .i64 (.ofNat 0)), (.int .i64 (.ofNat 0)), (.int .i64 (.ofNat 0))] (fun tm => [])) (put p25 (mv g11 p26 (storeK 6 g8 g25 (dropS (mv g26 p9 (F34ret))))))) ((F34j5 call round K)))))))))))))))))))))))))))
theorem F34_eq (call round : Caller) (K : Nat) : funF TT call round K 34 = F34 call round K := by kernel_rfl
/-! 36 (*revetment/plan.Drive).Device -/
def F36ret : CF := (ret1 g2)
def F36 (call round : Caller) (K : Nat) : FnT := funC 7 (mv (constE .nilptr) p2 (mv g0 p3 (nilK g3 (put p4 (offK 0 g4 (put p5 (load1K g5 (put p6 (mv g6 p2 (F36ret))))))))))
theorem F36_eq (call round : Caller) (K : Nat) : funF TT call round K 36 = F36 call round K := by kernel_rfl
/-! 38 revetment/entry.Fill -/
def F38ret : CF := (retC TT [.cell 2 87])
def F38j0 (call round : Caller) (K : Nat) : CF :=
  loadNK 32 g3 (put p12 (storeK 32 g2 g12 (dropS (F38ret))))
def F38j2 (call round : Caller) (K : Nat) (ih1_ : CF) : CF :=
  intK gAdd (bin TT .add 3) g5 (constE (.int .i64 (.ofNat 1))) (put p11 (mv g11 p5 (ih1_)))
def F38j3 (call round : Caller) (K : Nat) (ih1_ : CF) : CF :=
  mv g5 p7 (mv g7 p4 (mv g4 p8 (mv g0 p9 (ixArrK 32 1 g3 g8 (put p10 (storeK 1 g10 g9 (dropS ((F38j2 call round K ih1_)))))))))
def F38b4 (call round : Caller) (K : Nat) (ih1_ : CF) : CF :=
  intK gLss (bin TT .lss 3) g5 (constE (.int .i64 (.ofNat 32))) (put p6 (condC g6 ((F38j3 call round K ih1_)) ((F38j0 call round K))))
def F38 (call round : Caller) (K : Nat) : FnT := funC 13 (allocK (List.replicate 32 (.int .u8 (.ofNat 0))) 87 (put p2 (allocK (List.replicate 32 (.int .u8 (.ofNat 0))) 87 (put p3 (mv (constE (.int .i64 (.ofNat 0))) p5 (loopC (F38b4 call round K) K))))))
theorem F38_eq (call round : Caller) (K : Nat) : funF TT call round K 38 = F38 call round K := by kernel_rfl
/-! 39 (*revetment/zdev.Device).Crash -/
def F39ret : CF := ret0
def F39 (call round : Caller) (K : Nat) : FnT := funC 5 (mv g0 p2 (nilK g2 (put p3 (offK 4 g3 (put p4 (storeK 1 g4 (constE (.bool true)) (dropS (F39ret))))))))
theorem F39_eq (call round : Caller) (K : Nat) : funF TT call round K 39 = F39 call round K := by kernel_rfl
/-! 41 (*revetment/mirror.Mirror).Check -/
def F41ret : CF := (retC TT [.cell 4 87, .tmp 5, .tmp 6])
def F41j0 (call round : Caller) (K : Nat) : CF :=
  loadNK 32 g7 (put p65 (mv g8 p66 (storeK 32 g4 g65 (dropS (mv g66 p5 (mv (constE (.int .i64 (.ofNat 0))) p6 (F41ret)))))))
def F41j1 (call round : Caller) (K : Nat) : CF :=
  mv g9 p62 (intK gEql (bin TT .eql 3) g62 (constE (.int .i64 (.ofNat 0))) (put p63 (condC g63 (valK (buildV (evenP 1) (List.replicate 32 (.int .u8 (.ofNat 0))) (fun tm => [])) (put p64 (storeK 32 g4 g64 (dropS (mv (constE (.int .i64 (.ofNat 0))) p5 (mv (constE (.int .i64 (.ofNat 41))) p6 (F41ret))))))) ((F41j0 call round K)))))
def F41j3 (call round : Caller) (K : Nat) (ih2_ : CF) : CF :=
  intK gAdd (bin TT .add 3) g31 (constE (.int .i64 (.ofNat 1))) (put p61 (mv g61 p31 (ih2_)))
def F41j4 (call round : Caller) (K : Nat) (ih2_ : CF) : CF :=
  loadNK 32 g12 (put p51 (storeK 32 g7 g51 (dropS (mv g9 p52 (intK gAdd (bin TT .add 3) g52 (constE (.int .i64 (.ofNat 1))) (put p53 (mv g53 p9 (mv g0 p54 (ixArrK 2 1 g11 (constE (.int .i64 (.ofNat 0))) (put p55 (load1K g55 (put p56 (callK call 21 (fun tm => [g54 tm, g56 tm]) (put p57 (notK g57 (put p58 (condC g58 (mv g8 p59 (intK gAdd (bin TT .add 3) g59 (constE (.int .i64 (.ofNat 1))) (put p60 (mv g60 p8 ((F41j3 call round K ih2_)))))) ((F41j3 call round K ih2_)))))))))))))))))))
def F41j5 (call round : Caller) (K : Nat) (ih2_ : CF) : CF :=
  mv g13 p49 (notK g49 (put p50 (condC g50 ((F41j3 call round K ih2_)) ((F41j4 call round K ih2_)))))
def F41j6 (call round : Caller) (K : Nat) (ih2_ : CF) : CF :=
  ixValK 2 2 true 2 g30 g31 (put p33 (allocK [(.int .i64 (.ofNat 0)), (.int .i64 (.ofNat 0))] 176 (put p11 (storeK 2 g11 g33 (dropS (mv g0 p35 (loadNK 6 g3 (put p36 (ixArrK 2 1 g11 (constE (.int .i64 (.ofNat 0))) (put p37 (load1K g37 (put p38 (ixArrK 2 1 g11 (constE (.int .i64 (.ofNat 1))) (put p39 (load1K g39 (put p40 (callK call 84 (fun tm => [g35 tm, g36 tm, g38 tm, g40 tm]) (put p41 (mv g41 p34 (extrK 0 g34 (put p42 (extrK 1 g34 (put p43 (extrK 2 g34 (put p44 (allocK (List.replicate 32 (.int .u8 (.ofNat 0))) 87 (put p12 (storeK 32 g12 g42 (dropS (mv g43 p13 (mv g44 p14 (mv g14 p45 (intK gNeq (bin TT .neq 28) g45 (constE (.int .i64 (.ofNat 0))) (put p46 (condC g46 (valK (buildV (evenP 1) (List.replicate 32 (.int .u8 (.ofNat 0))) (fun tm => [])) (put p47 (mv g14 p48 (storeK 32 g4 g47 (dropS (mv (constE (.int .i64 (.ofNat 0))) p5 (mv g48 p6 (F41ret)))))))) ((F41j5 call round K ih2_)))))))))))))))))))))))))))))))))))))
def F41b7 (call round : Caller) (K : Nat) (ih2_ : CF) : CF :=
  intK gLss (bin TT .lss 3) g31 (constE (.int .i64 (.ofNat 2))) (put p32 (condC g32 ((F41j6 call round K ih2_)) ((F41j1 call round K))))
def F41j8 (call round : Caller) (K : Nat) : CF :=
  allocK (List.replicate 32 (.int .u8 (.ofNat 0))) 87 (put p7 (mv (constE (.int .i64 (.ofNat 0))) p8 (mv (constE (.int .i64 (.ofNat 0))) p9 (offK 1 g3 (put p20 (load1K g20 (put p21 (offK 2 g3 (put p22 (load1K g22 (put p23 (valK (buildV (evenP 1) [(.int .i64 (.ofNat 0)), (.int .i64 (.ofNat 0))] (fun tm => [(0, g21 tm), (1, g23 tm)])) (put p24 (offK 2 g3 (put p25 (load1K g25 (put p26 (offK 1 g3 (put p27 (load1K g27 (put p28 (valK (buildV (evenP 1) [(.int .i64 (.ofNat 0)), (.int .i64 (.ofNat 0))] (fun tm => [(0, g26 tm), (1, g28 tm)])) (put p29 (valK (buildV (evenP 2) [(.int .i64 (.ofNat 0)), (.int .i64 (.ofNat 0)), (.int .i64 (.ofNat 0)), (.int .i64 (.ofNat 0))] (fun tm => [(0, g24 tm), (1, g29 tm)])) (put p30 (mv (constE (.int .i64 (.ofNat 0))) p31 (loopC (F41b7 call round K) K)))))))))))))))))))))))))))
def F41 (call round : Caller) (K : Nat) : FnT := funC 67 (boxK 83 g1 (put p3 (allocK (List.replicate 32 (.int .u8 (.ofNat 0))) 87 (put p4 (mv (constE (.int .i64 (.ofNat 0))) p5 (mv (constE (.int .i64 (.ofNat 0))) p6 (mv g0 p15 (loadNK 6 g3 (put p16 (callK call 83 (fun tm => [g15 tm, g16 tm]) (put p17 (notK g17 (put p18 (condC g18 (valK (buildV (evenP 1) (List.replicate 32 (.int .u8 (.ofNat 0))) (fun tm => [])) (put p19 (storeK 32 g4 g19 (dropS (mv (constE (.int .i64 (.ofNat 0))) p5 (mv (constE (.int .i64 (.ofNat 10))) p6 (F41ret))))))) ((F41j8 call round K))))))))))))))))
theorem F41_eq (call round : Caller) (K : Nat) : funF TT call round K 41 = F41 call round K := by kernel_rfl
end
end Go.Ev
