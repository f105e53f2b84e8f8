/- Printed by GenD.lean. -/
import Derived.Test.YtpkcfamminlmaaaGreatFa
set_option linter.unusedVariables false
set_option linter.unusedSimpArgs false
set_option linter.unusedSectionVars false
namespace Go.Ev
open Go.Proofs
set_option maxRecDepth 100000
noncomputable section
/-! 43 (revetment/bmap.Entry).Right -/
def F43ret : CF := (ret1 g4)
def F43j0 (call round : Caller) (K : Nat) : CF :=
  mv (constE (.bool false)) p4 (F43ret)
def F43j1 (call round : Caller) (K : Nat) (base : Nat) (s : DX) : CF :=
  pickK g57 g60 (constE (.bool false)) (put p61 (moveK g61 (put p4 (F43ret))))
def F43j2 (call round : Caller) (K : Nat) (base : Nat) (s : DX) : CF :=
  pickK g52 g55 (constE (.bool false)) (put p56 (moveK g56 (put p57 (guard2 (wantG o57 true) (offK 5 g2 (put p58 (dLoad 42 4398046511103 base g58 s fun s => load1K g58 (put p59 (intK gLeq (bin TT .leq 3) g59 (constE (.int .i64 (.ofNat 4294967295))) (put p60 ((F43j1 call round K base s)))))))) (put p58 (put p59 (put p60 ((F43j1 call round K base s)) (.tuple [])) (.tuple [])) (.tuple []))))))
def F43j3 (call round : Caller) (K : Nat) (base : Nat) (s : DX) : CF :=
  pickK g47 g50 (constE (.bool false)) (put p51 (moveK g51 (put p52 (guard2 (wantG o52 true) (offK 5 g2 (put p53 (dLoad 37 137438953471 base g53 s fun s => load1K g53 (put p54 (intK gGeq (bin TT .geq 3) g54 (constE (.int .i64 (.ofNat 0))) (put p55 ((F43j2 call round K base s)))))))) (put p53 (put p54 (put p55 ((F43j2 call round K base s)) (.tuple [])) (.tuple [])) (.tuple []))))))
def F43j4 (call round : Caller) (K : Nat) (base : Nat) (s : DX) : CF :=
  pickK g42 g45 (constE (.bool false)) (put p46 (moveK g46 (put p47 (guard2 (wantG o47 true) (offK 4 g2 (put p48 (dLoad 32 4294967295 base g48 s fun s => load1K g48 (put p49 (intK gLeq (bin TT .leq 3) g49 (constE (.int .i64 (.ofNat 281474976710655))) (put p50 ((F43j3 call round K base s)))))))) (put p48 (put p49 (put p50 ((F43j3 call round K base s)) (.tuple [])) (.tuple [])) (.tuple []))))))
def F43j5 (call round : Caller) (K : Nat) (base : Nat) (s : DX) : CF :=
  pickK g31 g40 (constE (.bool false)) (put p41 (moveK g41 (put p42 (guard2 (wantG o42 true) (offK 4 g2 (put p43 (dLoad 27 134217727 base g43 s fun s => load1K g43 (put p44 (intK gGeq (bin TT .geq 3) g44 (constE (.int .i64 (.ofNat 1))) (put p45 ((F43j4 call round K base s)))))))) (put p43 (put p44 (put p45 ((F43j4 call round K base s)) (.tuple [])) (.tuple [])) (.tuple []))))))
def F43j6 (call round : Caller) (K : Nat) (base : Nat) (s : DX) : CF :=
  pickK g23 g29 (constE (.bool false)) (put p30 (moveK g30 (put p31 (guard2 (wantG o31 true) (dLoad 15 32767 base g3 s fun s => loadNK 6 g3 (put p32 (offK 1 g2 (put p33 (dLoad 17 98303 base g33 s fun s => load1K g33 (put p34 (dBig 18 262143 s (fun k => callK call 60 (fun tm => [g32 tm, g34 tm]) (k)) fun s => put p35 (dLoad 19 32767 base g3 s fun s => loadNK 6 g3 (put p36 (offK 2 g2 (put p37 (dLoad 21 1081343 base g37 s fun s => load1K g37 (put p38 (dBig 22 4194303 s (fun k => callK call 60 (fun tm => [g36 tm, g38 tm]) (k)) fun s => put p39 (intK gNeq (bin TT .neq 3) g35 g39 (put p40 ((F43j5 call round K base s)))))))))))))))))) (put p32 (put p33 (put p34 (put p35 (put p36 (put p37 (put p38 (put p39 (put p40 ((F43j5 call round K base s)) (.tuple [])) (.tuple [])) (.tuple [])) (.tuple [])) (.tuple [])) (.tuple [])) (.tuple [])) (.tuple [])) (.tuple []))))))
def F43j7 (call round : Caller) (K : Nat) : CF :=
  condC g7 (loadNK 6 g2 (put p10 (offK 0 g2 (put p11 (load1K g11 (put p12 (valK (buildV (nthPR [(0, 1), (1, 1), (2, 1), (3, 1), (4, 1), (5, 1)]) [(.int .i64 (.ofNat 0)), (.int .i64 (.ofNat 0)), (.int .i64 (.ofNat 0)), (.int .i64 (.ofNat 0)), (.int .i64 (.ofNat 0)), (.int .i64 (.ofNat 0))] (fun tm => [(0, g12 tm)])) (put p13 (intK gEql (bin TT .eql 83) g10 g13 (put p14 (mv g14 p4 (F43ret)))))))))))) (intK gEql (bin TT .eql 3) g6 (constE (.int .i64 (.ofNat 1))) (put p16 (mv g16 p15 (condC g15 (drawS fun base s => dLoad 0 0 base g3 s fun s => loadNK 6 g3 (put p17 (offK 1 g2 (put p18 (dLoad 2 2 base g18 s fun s => load1K g18 (put p19 (offK 3 g2 (put p20 (dLoad 4 8 base g20 s fun s => load1K g20 (put p21 (dBig 5 31 s (fun k => callK call 92 (fun tm => [g17 tm, g19 tm, g21 tm]) (k)) fun s => put p22 (moveK g22 (put p23 (guard2 (wantG o23 true) (dLoad 7 127 base g3 s fun s => loadNK 6 g3 (put p24 (offK 2 g2 (put p25 (dLoad 9 383 base g25 s fun s => load1K g25 (put p26 (offK 3 g2 (put p27 (dLoad 11 1151 base g27 s fun s => load1K g27 (put p28 (dBig 12 4095 s (fun k => callK call 92 (fun tm => [g24 tm, g26 tm, g28 tm]) (k)) fun s => put p29 ((F43j6 call round K base s))))))))))))) (put p24 (put p25 (put p26 (put p27 (put p28 (put p29 ((F43j6 call round K base s)) (.tuple [])) (.tuple [])) (.tuple [])) (.tuple [])) (.tuple [])) (.tuple [])))))))))))))))) ((F43j0 call round K))))))
def F43 (call round : Caller) (K : Nat) : FnT := funC 62 (boxK 83 g0 (put p2 (boxK 23 g1 (put p3 (mv (constE (.bool false)) p4 (offK 0 g2 (put p5 (load1K g5 (put p6 (intK gEql (bin TT .eql 3) g6 (constE (.int .i64 (.ofNat 0))) (put p8 (mv g8 p7 (condC g7 ((F43j7 call round K)) (intK gEql (bin TT .eql 3) g6 (constE (.int .i64 (.ofNat 2))) (put p9 (mv g9 p7 ((F43j7 call round K))))))))))))))))))
theorem F43_eq (call round : Caller) (K : Nat) : funF TT call round K 43 = F43 call round K := by kernel_rfl
/-! 49 (*revetment/pool.Pool).Has -/
def F49ret : CF := (retC TT [.cell 4 4])
def F49j0 (call round : Caller) (K : Nat) : CF :=
  storeK 1 g4 (constE (.bool false)) (dropS (F49ret))
def F49 (call round : Caller) (K : Nat) : FnT := funC 14 (boxK 3 g1 (put p3 (allocK [(.bool false)] 4 (put p4 (mv g0 p7 (callK call 105 (fun tm => [g7 tm]) (put p8 (rangeS TT call 49 14 none 0 (fun _ => badC) [(0, (F49j0 call round K))] F49ret ((F49j0 call round K))))))))))
theorem F49_eq (call round : Caller) (K : Nat) : funF TT call round K 49 = F49 call round K := by kernel_rfl
def F49r0body (call round : Caller) (K l : Nat) : CF :=
  mv g6 p11 (load1K g3 (put p12 (intK gEql (bin TT .eql 3) g11 g12 (put p13 (condC g13 (storeK 1 g4 (constE (.bool true)) (dropS ((roundEnd l false .done (some .ret))))) ((roundEnd l true .ready none)))))))
def F49r0 (call round : Caller) (K l : Nat) : CF :=
  mv g10 p6 (beginC l (F49r0body call round K l))
theorem F49r0_eq (call round : Caller) (K l : Nat) : codeK TT call round K 49 14 (some l) (fun id => roundEnd l false .done (some (.exit id))) (roundEnd l false .done (some .ret)) (rangeAt TT 49 0).2.2.1 [] (beginC l (codeK TT call round K 49 14 (some l) (fun id => roundEnd l false .done (some (.exit id))) (roundEnd l false .done (some .ret)) (rangeAt TT 49 0).2.2.2 [] (roundEnd l true .ready none))) = F49r0 call round K l := by kernel_rfl
/-! 54 revetment/revetmentref14.New -/
def F54ret : CF := (retC TT [.cell 4 42])
def F54 (call round : Caller) (K : Nat) : FnT := funC 13 (boxK 36 g0 (put p2 (boxK 37 g1 (put p3 (allocK ([.nilslice] ++ List.replicate 3 (.int .i64 (.ofNat 0)) ++ [(.bool false)] ++ List.replicate 2 .nilslice ++ List.replicate 8 (.int .i64 (.ofNat 0)) ++ List.replicate 2 .nilslice ++ List.replicate 3 (.int .i64 (.ofNat 0))) 42 (put p4 (loadNK 7 g2 (put p5 (loadNK 6 g3 (put p6 (offK 0 g3 (put p7 (load1K g7 (put p8 (offK 1 g3 (put p9 (load1K g9 (put p10 (valK (buildV (nthPR [(0, 1), (1, 1), (2, 1)]) [(.int .i64 (.ofNat 0)), (.int .i64 (.ofNat 0)), .nilslice] (fun tm => [(0, g8 tm), (1, g10 tm)])) (put p11 (valK (buildV (nthPR [(0, 7), (7, 6), (13, 3), (16, 1), (17, 1), (18, 1), (19, 1)]) ([.nilslice] ++ List.replicate 3 (.int .i64 (.ofNat 0)) ++ [(.bool false)] ++ List.replicate 2 .nilslice ++ List.replicate 8 (.int .i64 (.ofNat 0)) ++ List.replicate 2 .nilslice ++ List.replicate 3 (.int .i64 (.ofNat 0))) (fun tm => [(0, g5 tm), (1, g6 tm), (2, g11 tm), (4, (constE (.int .i64 (.negSucc 0))) tm), (5, (constE (.int .i64 (.negSucc 0))) tm)])) (put p12 (storeK 20 g4 g12 (dropS (F54ret)))))))))))))))))))))))))
theorem F54_eq (call round : Caller) (K : Nat) : funF TT call round K 54 = F54 call round K := by kernel_rfl
/-! 55 revetment/revetmentref07.New -/
def F55ret : CF := (retC TT [.cell 6 33])
def F55j0 (call round : Caller) (K : Nat) : CF :=
  loadNK 5 g7 (put p23 (storeK 5 g6 g23 (dropS (F55ret))))
def F55j2 (call round : Caller) (K : Nat) (ih1_ : CF) : CF :=
  mv g8 p15 (intK gAdd (bin TT .add 3) g15 (constE (.int .i64 (.ofNat 1))) (put p16 (mv g16 p8 (ih1_))))
def F55j3 (call round : Caller) (K : Nat) (ih1_ : CF) : CF :=
  offK 0 g7 (put p17 (load1K g17 (put p18 (valK (buildV (nthPR [(0, 1), (1, 1), (2, 1), (3, 1)]) [.nilslice, (.int .i64 (.ofNat 0)), (.int .i64 (.ofNat 0)), (.bool false)] (fun tm => [])) (put p19 (slowK (buildSliceM [.nilslice, (.int .i64 (.ofNat 0)), (.int .i64 (.ofNat 0)), (.bool false)] 215 4 1 (fun tm => [(0, g19 tm)])) (put p20 (slowK (appendM 215 4 g18 g20) (put p21 (offK 0 g7 (put p22 (storeK 1 g22 g21 (dropS ((F55j2 call round K ih1_)))))))))))))))
def F55b4 (call round : Caller) (K : Nat) (ih1_ : CF) : CF :=
  mv g8 p12 (mv g0 p13 (intK gLss (bin TT .lss 3) g12 g13 (put p14 (condC g14 ((F55j3 call round K ih1_)) ((F55j0 call round K))))))
def F55 (call round : Caller) (K : Nat) : FnT := funC 24 (allocK [.nilslice, (.int .i64 (.ofNat 0)), (.int .i64 (.ofNat 0)), (.int .i64 (.ofNat 0)), (.bool false)] 33 (put p6 (mv g1 p9 (mv g2 p10 (valK (buildV (nthPR [(0, 1), (1, 1), (2, 1), (3, 1), (4, 1)]) [.nilslice, (.int .i64 (.ofNat 0)), (.int .i64 (.ofNat 0)), (.int .i64 (.ofNat 0)), (.bool false)] (fun tm => [(1, g9 tm), (2, g10 tm)])) (put p11 (allocK [.nilslice, (.int .i64 (.ofNat 0)), (.int .i64 (.ofNat 0)), (.int .i64 (.ofNat 0)), (.bool false)] 33 (put p7 (storeK 5 g7 g11 (dropS (mv (constE (.int .i64 (.ofNat 0))) p8 (loopC (F55b4 call round K) K))))))))))))
theorem F55_eq (call round : Caller) (K : Nat) : funF TT call round K 55 = F55 call round K := by kernel_rfl
/-! 60 (revetment/geom.Geom).Domain -/
def F60ret : CF := (ret1 g4)
def F60j0 (call round : Caller) (K : Nat) : CF :=
  mv g1 p13 (offK 1 g2 (put p14 (load1K g14 (put p15 (binK (bin TT .quo 3) g13 g15 (put p16 (mv g16 p4 (F60ret))))))))
def F60j1 (call round : Caller) (K : Nat) : CF :=
  pickK g7 (constE (.bool true)) g11 (put p12 (condC g12 (mv (constE (.int .i64 (.negSucc 0))) p4 (F60ret)) ((F60j0 call round K))))
def F60 (call round : Caller) (K : Nat) : FnT := funC 17 (boxK 23 g0 (put p2 (mv (constE (.int .i64 (.ofNat 0))) p4 (mv g1 p5 (intK gLss (bin TT .lss 3) g5 (constE (.int .i64 (.ofNat 0))) (put p6 (mv g6 p7 (guard2 (wantG o7 false) (mv g1 p8 (loadNK 6 g2 (put p9 (callK call 63 (fun tm => [g9 tm]) (put p10 (intK gGeq (bin TT .geq 3) g8 g10 (put p11 ((F60j1 call round K))))))))) (put p8 (put p9 (put p10 (put p11 ((F60j1 call round K)) (.tuple [])) (.tuple [])) (.tuple [])) (.tuple []))))))))))
theorem F60_eq (call round : Caller) (K : Nat) : funF TT call round K 60 = F60 call round K := by kernel_rfl
/-! 61 (*revetment/queue.Queue[int]).Put -/
def F61ret : CF := (ret1 g4)
def F61 (call round : Caller) (K : Nat) : FnT := funC 13 (mv (constE (.int .i64 (.ofNat 0))) p4 (mv g0 p5 (nilK g5 (put p6 (offK 0 g6 (put p7 (load1K g7 (put p8 (mv g1 p9 (slowK (sendM g8 g9) (put p10 (extrK 0 g10 (put p11 (intK gEql (bin TT .eql 3) g11 (constE (.int .i64 (.ofNat 0))) (put p12 (condC g12 (mv (constE (.int .i64 (.ofNat 0))) p4 (F61ret)) (mv (constE (.int .i64 (.ofNat 17))) p4 (F61ret))))))))))))))))))
theorem F61_eq (call round : Caller) (K : Nat) : funF TT call round K 61 = F61 call round K := by kernel_rfl
/-! 62 (revetment/geom.Geom).Right -/
def F62ret : CF := (ret1 g2)
def F62j0 (call round : Caller) (K : Nat) (base : Nat) (s : DX) : CF :=
  pickK g12 g21 (constE (.bool false)) (put p22 (moveK g22 (put p2 (F62ret))))
def F62j1 (call round : Caller) (K : Nat) (base : Nat) (s : DX) : CF :=
  pickK g5 g10 (constE (.bool false)) (put p11 (moveK g11 (put p12 (guard2 (wantG o12 true) (offK 3 g1 (put p13 (dLoad 11 2047 base g13 s fun s => load1K g13 (put p14 (intK gMul (bin TT .mul 3) (constE (.int .i64 (.ofNat 2))) g14 (put p15 (offK 2 g1 (put p16 (dLoad 14 9215 base g16 s fun s => load1K g16 (put p17 (dLoad 15 1023 base g1 s fun s => loadNK 6 g1 (put p18 (dBig 16 33791 s (fun k => callK call 113 (fun tm => [g18 tm]) (k)) fun s => put p19 (intK gMul (bin TT .mul 3) g17 g19 (put p20 (intK gLeq (bin TT .leq 3) g15 g20 (put p21 ((F62j0 call round K base s))))))))))))))))))) (put p13 (put p14 (put p15 (put p16 (put p17 (put p18 (put p19 (put p20 (put p21 ((F62j0 call round K base s)) (.tuple [])) (.tuple [])) (.tuple [])) (.tuple [])) (.tuple [])) (.tuple [])) (.tuple [])) (.tuple [])) (.tuple []))))))
def F62 (call round : Caller) (K : Nat) : FnT := funC 23 (boxK 23 g0 (put p1 (mv (constE (.bool false)) p2 (drawS fun base s => dLoad 0 0 base g1 s fun s => loadNK 6 g1 (put p3 (dBig 1 1 s (fun k => callK call 111 (fun tm => [g3 tm]) (k)) fun s => put p4 (moveK g4 (put p5 (guard2 (wantG o5 true) (dLoad 3 7 base g1 s fun s => loadNK 6 g1 (put p6 (dBig 4 15 s (fun k => callK call 112 (fun tm => [g6 tm]) (k)) fun s => put p7 (offK 2 g1 (put p8 (dLoad 6 39 base g8 s fun s => load1K g8 (put p9 (intK gLeq (bin TT .leq 3) g7 g9 (put p10 ((F62j1 call round K base s))))))))))) (put p6 (put p7 (put p8 (put p9 (put p10 ((F62j1 call round K base s)) (.tuple [])) (.tuple [])) (.tuple [])) (.tuple [])) (.tuple [])))))))))))
theorem F62_eq (call round : Caller) (K : Nat) : funF TT call round K 62 = F62 call round K := by kernel_rfl
/-! 63 (revetment/geom.Geom).All -/
def F63ret : CF := (ret1 g2)
def F63 (call round : Caller) (K : Nat) : FnT := funC 8 (boxK 23 g0 (put p1 (mv (constE (.int .i64 (.ofNat 0))) p2 (offK 0 g1 (put p3 (load1K g3 (put p4 (offK 1 g1 (put p5 (load1K g5 (put p6 (intK gMul (bin TT .mul 3) g4 g6 (put p7 (mv g7 p2 (F63ret)))))))))))))))
theorem F63_eq (call round : Caller) (K : Nat) : funF TT call round K 63 = F63 call round K := by kernel_rfl
/-! 67 (*revetment/plan.Drive).Flush -/
def F67ret : CF := (ret1 g2)
def F67 (call round : Caller) (K : Nat) : FnT := funC 10 (mv (constE (.int .i64 (.ofNat 0))) p2 (mv g0 p3 (callK call 118 (fun tm => [g3 tm]) (put p4 (mv g0 p5 (nilK g5 (put p6 (offK 0 g6 (put p7 (load1K g7 (put p8 (callK call 119 (fun tm => [g8 tm]) (put p9 (mv g9 p2 (F67ret)))))))))))))))
theorem F67_eq (call round : Caller) (K : Nat) : funF TT call round K 67 = F67 call round K := by kernel_rfl
/-! 69 (*revetment/pool.Pool).Drop -/
def F69ret : CF := (ret1 g4)
def F69j0 (call round : Caller) (K : Nat) : CF :=
  mv (constE (.int .i64 (.ofNat 0))) p4 (F69ret)
def F69j1 (call round : Caller) (K : Nat) : CF :=
  pickK g14 (constE (.bool true)) g24 (put p25 (condC g25 (mv (constE (.int .i64 (.ofNat 15))) p4 (F69ret)) ((F69j0 call round K))))
def F69 (call round : Caller) (K : Nat) : FnT := funC 26 (boxK 3 g1 (put p3 (mv (constE (.int .i64 (.ofNat 0))) p4 (drawS fun base s => moveK g0 (put p6 (nilK g6 (put p7 (offK 0 g7 (put p8 (dLoad 3 7 base g8 s fun s => loadNK 6 g8 (put p9 (dLoad 4 0 base g3 s fun s => load1K g3 (put p10 (dBig 5 31 s (fun k => callK call 60 (fun tm => [g9 tm, g10 tm]) (k)) fun s => put p11 (moveK g11 (put p5 (mv g5 p12 (intK gLss (bin TT .lss 3) g12 (constE (.int .i64 (.ofNat 0))) (put p13 (mv g13 p14 (guard2 (wantG o14 false) (mv g0 p15 (nilK g15 (put p16 (offK 6 g16 (put p17 (load1K g17 (put p18 (mv g5 p19 (ixSliK 1 g18 g19 (put p20 (load1K g20 (put p21 (valK (makeFuncV 122 (fun tm => []) (fun tm => [g3 tm])) (put p22 (callK call 121 (fun tm => [g21 tm, g22 tm]) (put p23 (intK gEql (bin TT .eql 3) g23 (constE (.int .i64 (.ofNat 0))) (put p24 ((F69j1 call round K)))))))))))))))))))) (put p15 (put p16 (put p17 (put p18 (put p19 (put p20 (put p21 (put p22 (put p23 (put p24 ((F69j1 call round K)) (.tuple [])) (.tuple [])) (.tuple [])) (.tuple [])) (.tuple [])) (.tuple [])) (.tuple [])) (.tuple [])) (.tuple [])) (.tuple [])))))))))))))))))))))))
theorem F69_eq (call round : Caller) (K : Nat) : funF TT call round K 69 = F69 call round K := by kernel_rfl
/-! 70 (*revetment/mirror.Mirror).Close -/
def F70ret : CF := (ret1 g2)
def F70j0 (call round : Caller) (K : Nat) : CF :=
  mv g6 p40 (mv g40 p2 (F70ret))
def F70 (call round : Caller) (K : Nat) : FnT := funC 41 (mv (constE (.int .i64 (.ofNat 0))) p2 (mv g0 p8 (nilK g8 (put p9 (offK 265 g9 (put p10 (load1K g10 (put p11 (mv g0 p12 (nilK g12 (put p13 (offK 266 g13 (put p14 (load1K g14 (put p15 (mv g0 p16 (nilK g16 (put p17 (offK 267 g17 (put p18 (load1K g18 (put p19 (mv g11 p3 (mv g15 p4 (mv g19 p5 (mv g0 p20 (mv g0 p21 (mv g0 p22 (nilK g20 (put p23 (offK 265 g23 (put p24 (storeK 1 g24 (constE (.int .i64 (.negSucc 0))) (dropS (nilK g21 (put p25 (offK 266 g25 (put p26 (storeK 1 g26 (constE (.int .i64 (.negSucc 0))) (dropS (nilK g22 (put p27 (offK 267 g27 (put p28 (storeK 1 g28 (constE (.int .i64 (.ofNat 0))) (dropS (mv g0 p29 (mv g3 p30 (mv g5 p31 (callK call 123 (fun tm => [g29 tm, g30 tm, g31 tm]) (put p32 (mv g32 p6 (mv g0 p33 (mv g4 p34 (mv g5 p35 (callK call 123 (fun tm => [g33 tm, g34 tm, g35 tm]) (put p36 (mv g36 p7 (mv g6 p37 (intK gEql (bin TT .eql 28) g37 (constE (.int .i64 (.ofNat 0))) (put p38 (condC g38 (mv g7 p39 (mv g39 p6 ((F70j0 call round K)))) ((F70j0 call round K))))))))))))))))))))))))))))))))))))))))))))))))))))))))))))))))
theorem F70_eq (call round : Caller) (K : Nat) : funF TT call round K 70 = F70 call round K := by kernel_rfl
/-! 71 (*revetment/queue.Queue[int]).Len -/
def F71ret : CF := (ret1 g2)
def F71 (call round : Caller) (K : Nat) : FnT := funC 8 (mv (constE (.int .i64 (.ofNat 0))) p2 (mv g0 p3 (nilK g3 (put p4 (offK 0 g4 (put p5 (load1K g5 (put p6 (slowK (lenChM g6) (put p7 (mv g7 p2 (F71ret))))))))))))
theorem F71_eq (call round : Caller) (K : Nat) : funF TT call round K 71 = F71 call round K := by kernel_rfl
/-! 72 revetment/zdev.New -/
def F72ret : CF := (ret2 g6 g7)
def F72j0 (call round : Caller) (K : Nat) : CF :=
  mv g8 p45 (mv g45 p6 (mv (constE (.int .i64 (.ofNat 0))) p7 (F72ret)))
def F72j2 (call round : Caller) (K : Nat) (ih1_ : CF) : CF :=
  intK gAdd (bin TT .add 3) g24 (constE (.int .i64 (.ofNat 1))) (put p44 (mv g44 p24 (ih1_)))
def F72j3 (call round : Caller) (K : Nat) (ih1_ : CF) : CF :=
  mv g8 p34 (mv g8 p35 (nilK g35 (put p36 (offK 0 g36 (put p37 (load1K g37 (put p38 (mv g9 p39 (slowK (buildSliceM [.nilptr] 180 1 1 (fun tm => [(0, g39 tm)])) (put p40 (slowK (appendM 180 1 g38 g40) (put p41 (nilK g34 (put p42 (offK 0 g42 (put p43 (storeK 1 g43 g41 (dropS ((F72j2 call round K ih1_))))))))))))))))))))
def F72j4 (call round : Caller) (K : Nat) (ih1_ : CF) : CF :=
  mv g1 p27 (callK call 125 (fun tm => [g27 tm]) (put p28 (mv g28 p26 (extrK 0 g26 (put p29 (extrK 1 g26 (put p30 (mv g29 p9 (mv g30 p10 (mv g10 p31 (intK gNeq (bin TT .neq 28) g31 (constE (.int .i64 (.ofNat 0))) (put p32 (condC g32 (mv g10 p33 (mv (constE .nilptr) p6 (mv g33 p7 (F72ret)))) ((F72j3 call round K ih1_)))))))))))))))
def F72b5 (call round : Caller) (K : Nat) (ih1_ : CF) : CF :=
  intK gLss (bin TT .lss 3) g24 g23 (put p25 (condC g25 ((F72j4 call round K ih1_)) ((F72j0 call round K))))
def F72j6 (call round : Caller) (K : Nat) : CF :=
  mv g1 p19 (mv g2 p20 (valK (buildV (nthPR [(0, 1), (1, 1), (2, 1), (3, 1), (4, 1)]) [.nilslice, (.int .i64 (.ofNat 0)), (.int .i64 (.ofNat 0)), (.int .i64 (.ofNat 0)), (.bool false)] (fun tm => [(1, g19 tm), (2, g20 tm)])) (put p21 (boxK 183 g21 (put p22 (mv g22 p8 (mv g0 p23 (mv (constE (.int .i64 (.ofNat 0))) p24 (loopC (F72b5 call round K) K)))))))))
def F72j7 (call round : Caller) (K : Nat) : CF :=
  pickK g14 (constE (.bool true)) g17 (put p18 (condC g18 (mv (constE .nilptr) p6 (mv (constE (.int .i64 (.ofNat 13))) p7 (F72ret))) ((F72j6 call round K))))
def F72 (call round : Caller) (K : Nat) : FnT := funC 46 (mv (constE .nilptr) p6 (mv (constE (.int .i64 (.ofNat 0))) p7 (mv g0 p11 (callK call 124 (fun tm => [g11 tm, (constE (.int .i64 (.ofNat 512))) tm]) (put p12 (notK g12 (put p13 (mv g13 p14 (guard2 (wantG o14 false) (mv g2 p15 (callK call 124 (fun tm => [g15 tm, (constE (.int .i64 (.ofNat 64))) tm]) (put p16 (notK g16 (put p17 ((F72j7 call round K))))))) (put p15 (put p16 (put p17 ((F72j7 call round K)) (.tuple [])) (.tuple [])) (.tuple [])))))))))))
theorem F72_eq (call round : Caller) (K : Nat) : funF TT call round K 72 = F72 call round K := by kernel_rfl
/-! 73 revetment/pool.New -/
def F73ret : CF := (ret2 g2 g3)
def F73j0 (call round : Caller) (K : Nat) : CF :=
  mv g4 p37 (mv g37 p2 (mv (constE (.int .i64 (.ofNat 0))) p3 (F73ret)))
def F73j2 (call round : Caller) (K : Nat) (ih1_ : CF) : CF :=
  intK gAdd (bin TT .add 3) g15 (constE (.int .i64 (.ofNat 1))) (put p36 (mv g36 p15 (ih1_)))
def F73j3 (call round : Caller) (K : Nat) (ih1_ : CF) : CF :=
  mv g4 p26 (mv g4 p27 (nilK g27 (put p28 (offK 6 g28 (put p29 (load1K g29 (put p30 (mv g5 p31 (slowK (buildSliceM [.nilptr] 153 1 1 (fun tm => [(0, g31 tm)])) (put p32 (slowK (appendM 153 1 g30 g32) (put p33 (nilK g26 (put p34 (offK 6 g34 (put p35 (storeK 1 g35 g33 (dropS ((F73j2 call round K ih1_))))))))))))))))))))
def F73j4 (call round : Caller) (K : Nat) (ih1_ : CF) : CF :=
  offK 1 g1 (put p18 (load1K g18 (put p19 (callK call 126 (fun tm => [g19 tm]) (put p20 (mv g20 p17 (extrK 0 g17 (put p21 (extrK 1 g17 (put p22 (mv g21 p5 (mv g22 p6 (mv g6 p23 (intK gNeq (bin TT .neq 28) g23 (constE (.int .i64 (.ofNat 0))) (put p24 (condC g24 (mv g6 p25 (mv (constE .nilptr) p2 (mv g25 p3 (F73ret)))) ((F73j3 call round K ih1_))))))))))))))))))
def F73b5 (call round : Caller) (K : Nat) (ih1_ : CF) : CF :=
  intK gLss (bin TT .lss 3) g15 g14 (put p16 (condC g16 ((F73j4 call round K ih1_)) ((F73j0 call round K))))
def F73j6 (call round : Caller) (K : Nat) : CF :=
  loadNK 6 g1 (put p10 (valK (buildV (nthPR [(0, 6), (6, 1)]) [(.int .i64 (.ofNat 0)), (.int .i64 (.ofNat 0)), (.int .i64 (.ofNat 0)), (.int .i64 (.ofNat 0)), (.int .i64 (.ofNat 0)), (.int .i64 (.ofNat 0)), .nilslice] (fun tm => [(0, g10 tm)])) (put p11 (boxK 152 g11 (put p12 (mv g12 p4 (offK 0 g1 (put p13 (load1K g13 (put p14 (mv (constE (.int .i64 (.ofNat 0))) p15 (loopC (F73b5 call round K) K))))))))))))
def F73 (call round : Caller) (K : Nat) : FnT := funC 38 (boxK 23 g0 (put p1 (mv (constE .nilptr) p2 (mv (constE (.int .i64 (.ofNat 0))) p3 (loadNK 6 g1 (put p7 (callK call 62 (fun tm => [g7 tm]) (put p8 (notK g8 (put p9 (condC g9 (mv (constE .nilptr) p2 (mv (constE (.int .i64 (.ofNat 20))) p3 (F73ret))) ((F73j6 call round K)))))))))))))
theorem F73_eq (call round : Caller) (K : Nat) : funF TT call round K 73 = F73 call round K := by kernel_rfl
/-! 74 (*revetment/zdev.Device).Zones -/
def F74ret : CF := (ret1 g2)
def F74 (call round : Caller) (K : Nat) : FnT := funC 8 (mv (constE (.int .i64 (.ofNat 0))) p2 (mv g0 p3 (nilK g3 (put p4 (offK 0 g4 (put p5 (load1K g5 (put p6 (lenK g6 (put p7 (mv g7 p2 (F74ret))))))))))))
theorem F74_eq (call round : Caller) (K : Nat) : funF TT call round K 74 = F74 call round K := by kernel_rfl
/-! 75 (*revetment/zdev.Device).Size -/
def F75ret : CF := (ret1 g2)
def F75 (call round : Caller) (K : Nat) : FnT := funC 7 (mv (constE (.int .i64 (.ofNat 0))) p2 (mv g0 p3 (nilK g3 (put p4 (offK 1 g4 (put p5 (load1K g5 (put p6 (mv g6 p2 (F75ret))))))))))
theorem F75_eq (call round : Caller) (K : Nat) : funF TT call round K 75 = F75 call round K := by kernel_rfl
/-! 76 (revetment/revetmentref05.G).Parts -/
def F76ret : CF := (ret1 g2)
def F76j0 (call round : Caller) (K : Nat) : CF :=
  mv g3 p13 (mv g13 p2 (F76ret))
def F76j2 (call round : Caller) (K : Nat) (ih1_ : CF) : CF :=
  mv g4 p9 (intK gAdd (bin TT .add 3) g9 (constE (.int .i64 (.ofNat 2))) (put p10 (mv g10 p4 (ih1_))))
def F76j3 (call round : Caller) (K : Nat) (ih1_ : CF) : CF :=
  mv g3 p11 (intK gAdd (bin TT .add 3) g11 (constE (.int .i64 (.ofNat 1))) (put p12 (mv g12 p3 ((F76j2 call round K ih1_)))))
def F76b4 (call round : Caller) (K : Nat) (ih1_ : CF) : CF :=
  mv g4 p5 (offK 3 g1 (put p6 (load1K g6 (put p7 (intK gLss (bin TT .lss 3) g5 g7 (put p8 (condC g8 ((F76j3 call round K ih1_)) ((F76j0 call round K)))))))))
def F76 (call round : Caller) (K : Nat) : FnT := funC 14 (boxK 37 g0 (put p1 (mv (constE (.int .i64 (.ofNat 0))) p2 (mv (constE (.int .i64 (.ofNat 1))) p3 (mv (constE (.int .i64 (.ofNat 0))) p4 (loopC (F76b4 call round K) K))))))
theorem F76_eq (call round : Caller) (K : Nat) : funF TT call round K 76 = F76 call round K := by kernel_rfl
/-! 77 (revetment/revetmentref05.G).Segments -/
def F77ret : CF := (ret1 g2)
def F77j0 (call round : Caller) (K : Nat) : CF :=
  drawS fun base s => moveK g5 (put p39 (dBig 1 1 s (fun k => callK call 127 (fun tm => [g39 tm]) (k)) fun s => put p40 (intK gSub (bin TT .sub 3) g40 (constE (.int .i64 (.ofNat 1))) (put p41 (offK 0 g1 (put p42 (dLoad 4 8 base g42 s fun s => load1K g42 (put p43 (offK 4 g1 (put p44 (dLoad 6 32 base g44 s fun s => load1K g44 (put p45 (intK gMul (bin TT .mul 3) g43 g45 (put p46 (intK gSub (bin TT .sub 3) g41 g46 (put p47 (moveK g47 (put p2 (F77ret)))))))))))))))))))
def F77 (call round : Caller) (K : Nat) : FnT := funC 48 (boxK 37 g0 (put p1 (mv (constE (.int .i64 (.ofNat 0))) p2 (offK 1 g1 (put p7 (load1K g7 (put p8 (offK 4 g1 (put p9 (load1K g9 (put p10 (intK gSub (bin TT .sub 3) g8 g10 (put p11 (intK gSub (bin TT .sub 3) g11 (constE (.int .i64 (.ofNat 2))) (put p12 (mv g12 p3 (offK 0 g1 (put p13 (load1K g13 (put p14 (offK 4 g1 (put p15 (load1K g15 (put p16 (intK gMul (bin TT .mul 3) g14 g16 (put p17 (intK gAdd (bin TT .add 3) g17 (constE (.int .i64 (.ofNat 4))) (put p18 (mv g18 p4 (offK 0 g1 (put p19 (load1K g19 (put p20 (intK gSub (bin TT .sub 3) g20 (constE (.int .i64 (.ofNat 1))) (put p21 (mv g3 p22 (intK gMul (bin TT .mul 3) g21 g22 (put p23 (mv g4 p24 (intK gSub (bin TT .sub 3) g23 g24 (put p25 (intK gAdd (bin TT .add 3) g25 (constE (.int .i64 (.ofNat 1))) (put p26 (mv g26 p5 (offK 0 g1 (put p27 (load1K g27 (put p28 (mv g3 p29 (intK gMul (bin TT .mul 3) g28 g29 (put p30 (mv g4 p31 (intK gMul (bin TT .mul 3) (constE (.int .i64 (.ofNat 2))) g31 (put p32 (intK gSub (bin TT .sub 3) g30 g32 (put p33 (intK gAdd (bin TT .add 3) g33 (constE (.int .i64 (.ofNat 1))) (put p34 (mv g34 p6 (mv g6 p35 (mv g5 p36 (intK gLss (bin TT .lss 3) g35 g36 (put p37 (condC g37 (mv g6 p38 (mv g38 p5 ((F77j0 call round K)))) ((F77j0 call round K))))))))))))))))))))))))))))))))))))))))))))))))))))))))))))))))))
theorem F77_eq (call round : Caller) (K : Nat) : funF TT call round K 77 = F77 call round K := by kernel_rfl
/-! 78 (*revetment/pool.Pool).fullest -/
def F78ret : CF := (ret1 g4)
def F78j0 (call round : Caller) (K : Nat) : CF :=
  mv g5 p40 (mv g40 p4 (F78ret))
def F78j2 (call round : Caller) (K : Nat) (ih1_ : CF) : CF :=
  intK gAdd (bin TT .add 3) g13 (constE (.int .i64 (.ofNat 1))) (put p39 (mv g39 p13 (ih1_)))
def F78j3 (call round : Caller) (K : Nat) (ih1_ : CF) (base : Nat) (s : DX) : CF :=
  pickK g21 g36 (constE (.bool false)) (put p37 (condC g37 (mv g6 p38 (mv g38 p5 ((F78j2 call round K ih1_)))) ((F78j2 call round K ih1_))))
def F78j4 (call round : Caller) (K : Nat) (ih1_ : CF) (base : Nat) (s : DX) : CF :=
  guard2 (wantG o21 true) (pickK g24 (constE (.bool true)) g35 (put p36 ((F78j3 call round K ih1_ base s)))) (put p36 ((F78j3 call round K ih1_ base s)) (.tuple []))
def F78j5 (call round : Caller) (K : Nat) (ih1_ : CF) (base : Nat) (s : DX) : CF :=
  guard2 (wantG o24 false) (moveK g7 (put p25 (dBig 8 255 s (fun k => callK call 71 (fun tm => [g25 tm]) (k)) fun s => put p26 (moveK g0 (put p27 (nilK g27 (put p28 (offK 6 g28 (put p29 (dLoad 12 3711 base g29 s fun s => load1K g29 (put p30 (moveK g5 (put p31 (ixSliK 1 g30 g31 (put p32 (dLoad 15 32383 base g32 s fun s => load1K g32 (put p33 (dBig 16 65535 s (fun k => callK call 71 (fun tm => [g33 tm]) (k)) fun s => put p34 (intK gGtr (bin TT .gtr 3) g26 g34 (put p35 ((F78j4 call round K ih1_ base s)))))))))))))))))))))) (put p25 (put p26 (put p27 (put p28 (put p29 (put p30 (put p31 (put p32 (put p33 (put p34 (put p35 ((F78j4 call round K ih1_ base s)) (.tuple [])) (.tuple [])) (.tuple [])) (.tuple [])) (.tuple [])) (.tuple [])) (.tuple [])) (.tuple [])) (.tuple [])) (.tuple [])) (.tuple []))
def F78j6 (call round : Caller) (K : Nat) (ih1_ : CF) : CF :=
  mv g13 p15 (ixSliK 1 g11 g13 (put p16 (load1K g16 (put p17 (mv g15 p6 (mv g17 p7 (drawS fun base s => moveK g6 (put p18 (moveK g1 (put p19 (intK gNeq (bin TT .neq 3) g18 g19 (put p20 (moveK g20 (put p21 (guard2 (wantG o21 true) (moveK g5 (put p22 (intK gLss (bin TT .lss 3) g22 (constE (.int .i64 (.ofNat 0))) (put p23 (moveK g23 (put p24 ((F78j5 call round K ih1_ base s)))))))) (put p22 (put p23 (put p24 ((F78j5 call round K ih1_ base s)) (.tuple [])) (.tuple [])) (.tuple [])))))))))))))))))
def F78b7 (call round : Caller) (K : Nat) (ih1_ : CF) : CF :=
  intK gLss (bin TT .lss 3) g13 g12 (put p14 (condC g14 ((F78j6 call round K ih1_)) ((F78j0 call round K))))
def F78 (call round : Caller) (K : Nat) : FnT := funC 41 (mv (constE (.int .i64 (.ofNat 0))) p4 (mv (constE (.int .i64 (.negSucc 0))) p5 (mv g0 p8 (nilK g8 (put p9 (offK 6 g9 (put p10 (load1K g10 (put p11 (lenK g11 (put p12 (mv (constE (.int .i64 (.ofNat 0))) p13 (loopC (F78b7 call round K) K)))))))))))))
theorem F78_eq (call round : Caller) (K : Nat) : funF TT call round K 78 = F78 call round K := by kernel_rfl
/-! 79 (revetment/entry.Entry).Frame -/
def F79ret : CF := (retC TT [.cell 10 120, .tmp 11])
def F79j0 (call round : Caller) (K : Nat) : CF :=
  loadNK 49 g14 (put p51 (storeK 49 g10 g51 (dropS (mv (constE (.int .i64 (.ofNat 0))) p11 (F79ret)))))
def F79j1 (call round : Caller) (K : Nat) : CF :=
  pickK g41 (constE (.bool true)) g48 (put p49 (condC g49 (valK (buildV (nthPR [(0, 1), (1, 1), (2, 1), (3, 1), (4, 1), (5, 44)]) (List.replicate 5 (.int .i64 (.ofNat 0)) ++ List.replicate 44 (.int .u8 (.ofNat 0))) (fun tm => [])) (put p50 (storeK 49 g10 g50 (dropS (mv (constE (.int .i64 (.ofNat 10))) p11 (F79ret)))))) ((F79j0 call round K))))
def F79j2 (call round : Caller) (K : Nat) : CF :=
  pickK g35 (constE (.bool true)) g39 (put p40 (mv g40 p41 (guard2 (wantG o41 false) (offK 1 g5 (put p42 (load1K g42 (put p43 (mv g4 p44 (offK 2 g5 (put p45 (load1K g45 (put p46 (intK gSub (bin TT .sub 3) g44 g46 (put p47 (intK gLeq (bin TT .leq 3) g43 g47 (put p48 ((F79j1 call round K))))))))))))))) (put p42 (put p43 (put p44 (put p45 (put p46 (put p47 (put p48 ((F79j1 call round K)) (.tuple [])) (.tuple [])) (.tuple [])) (.tuple [])) (.tuple [])) (.tuple [])) (.tuple [])))))
def F79j3 (call round : Caller) (K : Nat) : CF :=
  pickK g30 (constE (.bool true)) g33 (put p34 (mv g34 p35 (guard2 (wantG o35 false) (offK 1 g5 (put p36 (load1K g36 (put p37 (mv g4 p38 (intK gGtr (bin TT .gtr 3) g37 g38 (put p39 ((F79j2 call round K))))))))) (put p36 (put p37 (put p38 (put p39 ((F79j2 call round K)) (.tuple [])) (.tuple [])) (.tuple [])) (.tuple [])))))
def F79 (call round : Caller) (K : Nat) : FnT := funC 52 (boxK 89 g0 (put p5 (allocK (List.replicate 5 (.int .i64 (.ofNat 0)) ++ List.replicate 44 (.int .u8 (.ofNat 0))) 120 (put p10 (mv (constE (.int .i64 (.ofNat 0))) p11 (loadNK 38 g5 (put p16 (callK call 128 (fun tm => [g16 tm]) (put p17 (mv g17 p15 (extrK 0 g15 (put p18 (extrK 1 g15 (put p19 (allocK (List.replicate 44 (.int .u8 (.ofNat 0))) 118 (put p12 (storeK 44 g12 g18 (dropS (mv g19 p13 (offK 0 g5 (put p20 (load1K g20 (put p21 (mv g1 p22 (mv g2 p23 (mv g3 p24 (mv g4 p25 (loadNK 44 g12 (put p26 (valK (buildV (nthPR [(0, 1), (1, 1), (2, 1), (3, 1), (4, 1), (5, 44)]) (List.replicate 5 (.int .i64 (.ofNat 0)) ++ List.replicate 44 (.int .u8 (.ofNat 0))) (fun tm => [(0, g21 tm), (1, g22 tm), (2, g23 tm), (3, g24 tm), (4, g25 tm), (5, g26 tm)])) (put p27 (allocK (List.replicate 5 (.int .i64 (.ofNat 0)) ++ List.replicate 44 (.int .u8 (.ofNat 0))) 120 (put p14 (storeK 49 g14 g27 (dropS (mv g13 p28 (intK gNeq (bin TT .neq 28) g28 (constE (.int .i64 (.ofNat 0))) (put p29 (mv g29 p30 (guard2 (wantG o30 false) (loadNK 49 g14 (put p31 (callK call 129 (fun tm => [g31 tm]) (put p32 (notK g32 (put p33 ((F79j3 call round K)))))))) (put p31 (put p32 (put p33 ((F79j3 call round K)) (.tuple [])) (.tuple [])) (.tuple []))))))))))))))))))))))))))))))))))))))))))
theorem F79_eq (call round : Caller) (K : Nat) : funF TT call round K 79 = F79 call round K := by kernel_rfl
/-! 80 (*revetment/mirror.Mirror).ready -/
def F80ret : CF := (ret1 g2)
def F80j0 (call round : Caller) (K : Nat) : CF :=
  mv g0 p43 (mv g0 p44 (mv g0 p45 (mv g4 p46 (mv g5 p47 (nilK g43 (put p48 (offK 265 g48 (put p49 (storeK 1 g49 g46 (dropS (nilK g44 (put p50 (offK 266 g50 (put p51 (storeK 1 g51 g47 (dropS (nilK g45 (put p52 (offK 267 g52 (put p53 (storeK 1 g53 (constE (.int .i64 (.ofNat 0))) (dropS (mv (constE (.int .i64 (.ofNat 0))) p2 (F80ret))))))))))))))))))))))))
def F80j1 (call round : Caller) (K : Nat) : CF :=
  mv g0 p33 (nilK g33 (put p34 (offK 263 g34 (put p35 (load1K g35 (put p36 (callK call 130 (fun tm => [g36 tm]) (put p37 (mv g37 p32 (extrK 0 g32 (put p38 (extrK 1 g32 (put p39 (extrK 2 g32 (put p40 (mv g38 p4 (mv g39 p5 (mv g40 p6 (mv g6 p41 (intK gNeq (bin TT .neq 28) g41 (constE (.int .i64 (.ofNat 0))) (put p42 (condC g42 (mv (constE (.int .i64 (.ofNat 40))) p2 (F80ret)) ((F80j0 call round K))))))))))))))))))))))))
def F80j2 (call round : Caller) (K : Nat) : CF :=
  mv g0 p24 (nilK g24 (put p25 (offK 0 g25 (put p26 (load1K g26 (put p27 (callK call 67 (fun tm => [g27 tm]) (put p28 (mv g28 p3 (mv g3 p29 (intK gNeq (bin TT .neq 28) g29 (constE (.int .i64 (.ofNat 0))) (put p30 (condC g30 (mv g3 p31 (mv g31 p2 (F80ret))) ((F80j1 call round K)))))))))))))))
def F80j3 (call round : Caller) (K : Nat) : CF :=
  pickK g12 g22 (constE (.bool false)) (put p23 (condC g23 (mv (constE (.int .i64 (.ofNat 0))) p2 (F80ret)) ((F80j2 call round K))))
def F80 (call round : Caller) (K : Nat) : FnT := funC 54 (mv (constE (.int .i64 (.ofNat 0))) p2 (mv g0 p7 (nilK g7 (put p8 (offK 265 g8 (put p9 (load1K g9 (put p10 (intK gNeq (bin TT .neq 3) g10 (constE (.int .i64 (.negSucc 0))) (put p11 (mv g11 p12 (guard2 (wantG o12 true) (mv g0 p13 (nilK g13 (put p14 (offK 267 g14 (put p15 (load1K g15 (put p16 (mv g0 p17 (nilK g17 (put p18 (offK 1 g18 (put p19 (offK 2 g19 (put p20 (load1K g20 (put p21 (intK gLss (bin TT .lss 3) g16 g21 (put p22 ((F80j3 call round K)))))))))))))))))))) (put p13 (put p14 (put p15 (put p16 (put p17 (put p18 (put p19 (put p20 (put p21 (put p22 ((F80j3 call round K)) (.tuple [])) (.tuple [])) (.tuple [])) (.tuple [])) (.tuple [])) (.tuple [])) (.tuple [])) (.tuple [])) (.tuple [])) (.tuple []))))))))))))))
theorem F80_eq (call round : Caller) (K : Nat) : funF TT call round K 80 = F80 call round K := by kernel_rfl
/-! 81 (*revetment/mirror.Mirror).both -/
def F81ret : CF := (ret2 g8 g9)
def F81j0 (call round : Caller) (K : Nat) : CF :=
  mv g11 p32 (mv g0 p33 (loadNK 38 g5 (put p34 (mv g11 p35 (mv g10 p36 (mv g2 p37 (mv g3 p38 (callK call 131 (fun tm => [g33 tm, g34 tm, g35 tm, g36 tm, g37 tm, g38 tm]) (put p39 (mv g32 p8 (mv g39 p9 (F81ret))))))))))))
def F81 (call round : Caller) (K : Nat) : FnT := funC 40 (boxK 89 g1 (put p5 (mv (constE (.int .i64 (.ofNat 0))) p8 (mv (constE (.int .i64 (.ofNat 0))) p9 (mv g0 p13 (nilK g13 (put p14 (offK 265 g14 (put p15 (load1K g15 (put p16 (mv g0 p17 (nilK g17 (put p18 (offK 266 g18 (put p19 (load1K g19 (put p20 (mv g16 p10 (mv g20 p11 (mv g0 p21 (loadNK 38 g5 (put p22 (mv g10 p23 (mv g11 p24 (mv g2 p25 (mv g3 p26 (callK call 131 (fun tm => [g21 tm, g22 tm, g23 tm, g24 tm, g25 tm, g26 tm]) (put p27 (mv g27 p12 (mv g12 p28 (intK gNeq (bin TT .neq 28) g28 (constE (.int .i64 (.ofNat 0))) (put p29 (condC g29 (mv g10 p30 (mv g12 p31 (mv g30 p8 (mv g31 p9 (F81ret))))) ((F81j0 call round K))))))))))))))))))))))))))))))))))))
theorem F81_eq (call round : Caller) (K : Nat) : funF TT call round K 81 = F81 call round K := by kernel_rfl
/-! 82 (revetment/crc.Table).Sum -/
def F82ret : CF := (ret1 g4)
def F82 (call round : Caller) (K : Nat) : FnT := funC 8 (boxK 72 g0 (put p2 (mv (constE (.int .u32 (.ofNat 0))) p4 (mv g1 p5 (callK call 132 (fun tm => [g2 tm, (constE (.int .u32 (.ofNat 4294967295))) tm, g5 tm]) (put p6 (binK (bin TT .xor 70) g6 (constE (.int .u32 (.ofNat 4294967295))) (put p7 (mv g7 p4 (F82ret))))))))))
theorem F82_eq (call round : Caller) (K : Nat) : funF TT call round K 82 = F82 call round K := by kernel_rfl
/-! 83 (*revetment/mirror.Mirror).lives -/
def F83ret : CF := (ret1 g4)
def F83j0 (call round : Caller) (K : Nat) (base : Nat) (s : DX) : CF :=
  pickK g8 g14 (constE (.bool false)) (put p15 (moveK g15 (put p4 (F83ret))))
def F83 (call round : Caller) (K : Nat) : FnT := funC 16 (boxK 83 g1 (put p3 (mv (constE (.bool false)) p4 (drawS fun base s => offK 0 g3 (put p5 (dLoad 1 1 base g5 s fun s => load1K g5 (put p6 (intK gEql (bin TT .eql 3) g6 (constE (.int .i64 (.ofNat 1))) (put p7 (moveK g7 (put p8 (guard2 (wantG o8 true) (dLoad 4 15 base g3 s fun s => loadNK 6 g3 (put p9 (moveK g0 (put p10 (nilK g10 (put p11 (offK 1 g11 (put p12 (dLoad 8 239 base g12 s fun s => loadNK 6 g12 (put p13 (dBig 9 511 s (fun k => callK call 43 (fun tm => [g9 tm, g13 tm]) (k)) fun s => put p14 ((F83j0 call round K base s))))))))))))) (put p9 (put p10 (put p11 (put p12 (put p13 (put p14 ((F83j0 call round K base s)) (.tuple [])) (.tuple [])) (.tuple [])) (.tuple [])) (.tuple [])) (.tuple []))))))))))))))
theorem F83_eq (call round : Caller) (K : Nat) : funF TT call round K 83 = F83 call round K := by kernel_rfl
/-! 84 (*revetment/mirror.Mirror).copy -/
def F84ret : CF := (retC TT [.cell 8 87, .tmp 9, .tmp 10])
def F84j0 (call round : Caller) (K : Nat) : CF :=
  offK 6 g14 (put p94 (loadNK 32 g94 (put p95 (storeK 32 g8 g95 (dropS (mv (constE (.bool true)) p9 (mv (constE (.int .i64 (.ofNat 0))) p10 (F84ret))))))))
def F84j1 (call round : Caller) (K : Nat) (base : Nat) (s : DX) : CF :=
  pickK g80 (constE (.bool true)) g91 (put p92 (condC g92 (valK (buildV (evenP 1) (List.replicate 32 (.int .u8 (.ofNat 0))) (fun tm => [])) (put p93 (storeK 32 g8 g93 (dropS (mv (constE (.bool false)) p9 (mv (constE (.int .i64 (.ofNat 0))) p10 (F84ret))))))) ((F84j0 call round K))))
def F84j2 (call round : Caller) (K : Nat) (base : Nat) (s : DX) : CF :=
  pickK g74 (constE (.bool true)) g78 (put p79 (moveK g79 (put p80 (guard2 (wantG o80 false) (moveK g0 (put p81 (nilK g81 (put p82 (offK 7 g82 (put p83 (dLoad 12 4095 base g83 s fun s => loadNK 256 g83 (put p84 (offK 6 g14 (put p85 (valK (sliArrV 32 1 g85 (fun _ => none) (fun _ => none) (fun _ => none)) (put p86 (dBig 15 32767 s (fun k => callK call 82 (fun tm => [g84 tm, g86 tm]) (k)) fun s => put p87 (convK .i64 g87 (put p88 (offK 5 g5 (put p89 (dLoad 18 131583 base g89 s fun s => load1K g89 (put p90 (intK gNeq (bin TT .neq 3) g88 g90 (put p91 ((F84j1 call round K base s))))))))))))))))))))))) (put p81 (put p82 (put p83 (put p84 (put p85 (put p86 (put p87 (put p88 (put p89 (put p90 (put p91 ((F84j1 call round K base s)) (.tuple [])) (.tuple [])) (.tuple [])) (.tuple [])) (.tuple [])) (.tuple [])) (.tuple [])) (.tuple [])) (.tuple [])) (.tuple [])) (.tuple []))))))
def F84j3 (call round : Caller) (K : Nat) : CF :=
  loadNK 49 g13 (put p68 (callK call 135 (fun tm => [g68 tm]) (put p69 (mv g69 p67 (extrK 0 g67 (put p70 (extrK 1 g67 (put p71 (allocK (List.replicate 6 (.int .i64 (.ofNat 0)) ++ List.replicate 32 (.int .u8 (.ofNat 0))) 89 (put p14 (storeK 38 g14 g70 (dropS (mv g71 p12 (drawS fun base s => moveK g12 (put p72 (intK gNeq (bin TT .neq 28) g72 (constE (.int .i64 (.ofNat 0))) (put p73 (moveK g73 (put p74 (guard2 (wantG o74 false) (offK 5 g14 (put p75 (dLoad 4 15 base g75 s fun s => load1K g75 (put p76 (moveK g3 (put p77 (intK gNeq (bin TT .neq 3) g76 g77 (put p78 ((F84j2 call round K base s)))))))))) (put p75 (put p76 (put p77 (put p78 ((F84j2 call round K base s)) (.tuple [])) (.tuple [])) (.tuple [])) (.tuple []))))))))))))))))))))))
def F84j4 (call round : Caller) (K : Nat) : CF :=
  pickK g59 (constE (.bool true)) g64 (put p65 (condC g65 (valK (buildV (evenP 1) (List.replicate 32 (.int .u8 (.ofNat 0))) (fun tm => [])) (put p66 (storeK 32 g8 g66 (dropS (mv (constE (.bool false)) p9 (mv (constE (.int .i64 (.ofNat 0))) p10 (F84ret))))))) ((F84j3 call round K))))
def F84j5 (call round : Caller) (K : Nat) : CF :=
  pickK g54 (constE (.bool true)) g57 (put p58 (mv g58 p59 (guard2 (wantG o59 false) (offK 4 g13 (put p60 (load1K g60 (put p61 (offK 4 g5 (put p62 (load1K g62 (put p63 (intK gNeq (bin TT .neq 3) g61 g63 (put p64 ((F84j4 call round K)))))))))))) (put p60 (put p61 (put p62 (put p63 (put p64 ((F84j4 call round K)) (.tuple [])) (.tuple [])) (.tuple [])) (.tuple [])) (.tuple [])))))
def F84j6 (call round : Caller) (K : Nat) : CF :=
  drawS fun base s => moveK g0 (put p41 (nilK g41 (put p42 (offK 7 g42 (put p43 (dLoad 3 7 base g43 s fun s => loadNK 256 g43 (put p44 (dLoad 4 0 base g11 s fun s => loadNK 64 g11 (put p45 (moveK g2 (put p46 (offK 3 g5 (put p47 (dLoad 7 64 base g47 s fun s => load1K g47 (put p48 (dBig 8 255 s (fun k => callK call 108 (fun tm => [g44 tm, g45 tm, g46 tm, g48 tm]) (k)) fun s => put p49 (moveK g49 (put p40 (extrK 0 g40 (put p50 (extrK 1 g40 (put p51 (dNew 12 s fun s => allocK (List.replicate 5 (.int .i64 (.ofNat 0)) ++ List.replicate 44 (.int .u8 (.ofNat 0))) 120 (put p13 (dSto 13 6143 g13 s fun s => storeK 49 g13 g50 (dropS (moveK g51 (put p12 (mv g12 p52 (intK gNeq (bin TT .neq 28) g52 (constE (.int .i64 (.ofNat 0))) (put p53 (mv g53 p54 (guard2 (wantG o54 false) (offK 0 g13 (put p55 (load1K g55 (put p56 (intK gEql (bin TT .eql 3) g56 (constE (.int .i64 (.ofNat 2))) (put p57 ((F84j5 call round K)))))))) (put p55 (put p56 (put p57 ((F84j5 call round K)) (.tuple [])) (.tuple [])) (.tuple [])))))))))))))))))))))))))))))))))))
def F84 (call round : Caller) (K : Nat) : FnT := funC 96 (boxK 83 g1 (put p5 (allocK (List.replicate 32 (.int .u8 (.ofNat 0))) 87 (put p8 (mv (constE (.bool false)) p9 (mv (constE (.int .i64 (.ofNat 0))) p10 (drawS fun base s => moveK g0 (put p16 (nilK g16 (put p17 (offK 0 g17 (put p18 (dLoad 3 7 base g18 s fun s => load1K g18 (put p19 (moveK g2 (put p20 (offK 3 g5 (put p21 (dLoad 6 32 base g21 s fun s => load1K g21 (put p22 (dBig 7 127 s (fun k => callK call 133 (fun tm => [g19 tm, g20 tm, g22 tm]) (k)) fun s => put p23 (moveK g23 (put p15 (extrK 0 g15 (put p24 (extrK 1 g15 (put p25 (dNew 11 s fun s => allocK (List.replicate 64 (.int .u8 (.ofNat 0))) 103 (put p11 (dSto 12 3071 g11 s fun s => storeK 64 g11 g24 (dropS (moveK g25 (put p12 (mv g12 p26 (intK gEql (bin TT .eql 28) g26 (constE (.int .i64 (.ofNat 0))) (put p29 (mv g29 p28 (condC g28 ((F84j6 call round K)) (intK gEql (bin TT .eql 28) g26 (constE (.int .i64 (.ofNat 34))) (put p31 (mv g31 p30 (condC g30 (valK (buildV (evenP 1) (List.replicate 32 (.int .u8 (.ofNat 0))) (fun tm => [])) (put p32 (mv g12 p33 (storeK 32 g8 g32 (dropS (mv (constE (.bool false)) p9 (mv g33 p10 (F84ret)))))))) (intK gEql (bin TT .eql 28) g26 (constE (.int .i64 (.ofNat 32))) (put p35 (mv g35 p34 (condC g34 (valK (buildV (evenP 1) (List.replicate 32 (.int .u8 (.ofNat 0))) (fun tm => [])) (put p36 (mv g0 p37 (mv g2 p38 (callK call 134 (fun tm => [g37 tm, g38 tm]) (put p39 (storeK 32 g8 g36 (dropS (mv (constE (.bool false)) p9 (mv g39 p10 (F84ret))))))))))) (valK (buildV (evenP 1) (List.replicate 32 (.int .u8 (.ofNat 0))) (fun tm => [])) (put p27 (storeK 32 g8 g27 (dropS (mv (constE (.bool false)) p9 (mv (constE (.int .i64 (.ofNat 0))) p10 (F84ret)))))))))))))))))))))))))))))))))))))))))))))))))))))
theorem F84_eq (call round : Caller) (K : Nat) : funF TT call round K 84 = F84 call round K := by kernel_rfl
/-! 85 (*revetment/zdev.Device).has -/
def F85ret : CF := (ret1 g4)
def F85j0 (call round : Caller) (K : Nat) : CF :=
  pickK g7 g14 (constE (.bool false)) (put p15 (mv g15 p4 (F85ret)))
def F85 (call round : Caller) (K : Nat) : FnT := funC 16 (mv (constE (.bool false)) p4 (mv g1 p5 (intK gGeq (bin TT .geq 3) g5 (constE (.int .i64 (.ofNat 0))) (put p6 (mv g6 p7 (guard2 (wantG o7 true) (mv g1 p8 (mv g0 p9 (nilK g9 (put p10 (offK 0 g10 (put p11 (load1K g11 (put p12 (lenK g12 (put p13 (intK gLss (bin TT .lss 3) g8 g13 (put p14 ((F85j0 call round K)))))))))))))) (put p8 (put p9 (put p10 (put p11 (put p12 (put p13 (put p14 ((F85j0 call round K)) (.tuple [])) (.tuple [])) (.tuple [])) (.tuple [])) (.tuple [])) (.tuple [])) (.tuple []))))))))
theorem F85_eq (call round : Caller) (K : Nat) : funF TT call round K 85 = F85 call round K := by kernel_rfl
/-! 86 (*revetment/zone.Zone[revetment/frame.Sector]).State -/
def F86ret : CF := (ret1 g2)
def F86 (call round : Caller) (K : Nat) : FnT := funC 7 (mv (constE (.int .i64 (.ofNat 0))) p2 (mv g0 p3 (nilK g3 (put p4 (offK 3 g4 (put p5 (load1K g5 (put p6 (mv g6 p2 (F86ret))))))))))
theorem F86_eq (call round : Caller) (K : Nat) : funF TT call round K 86 = F86 call round K := by kernel_rfl
/-! 92 (revetment/geom.Geom).Holds -/
def F92ret : CF := (ret1 g6)
def F92j0 (call round : Caller) (K : Nat) : CF :=
  pickK g16 g21 (constE (.bool false)) (put p22 (mv g22 p6 (F92ret)))
def F92j1 (call round : Caller) (K : Nat) : CF :=
  pickK g9 g14 (constE (.bool false)) (put p15 (mv g15 p16 (guard2 (wantG o16 true) (mv g2 p17 (offK 2 g3 (put p18 (load1K g18 (put p19 (intK gSub (bin TT .sub 3) g19 (constE (.int .i64 (.ofNat 1))) (put p20 (callK call 140 (fun tm => [g17 tm, (constE (.int .i64 (.ofNat 0))) tm, g20 tm]) (put p21 ((F92j0 call round K))))))))))) (put p17 (put p18 (put p19 (put p20 (put p21 ((F92j0 call round K)) (.tuple [])) (.tuple [])) (.tuple [])) (.tuple [])) (.tuple [])))))
def F92 (call round : Caller) (K : Nat) : FnT := funC 23 (boxK 23 g0 (put p3 (mv (constE (.bool false)) p6 (loadNK 6 g3 (put p7 (callK call 62 (fun tm => [g7 tm]) (put p8 (mv g8 p9 (guard2 (wantG o9 true) (mv g1 p10 (loadNK 6 g3 (put p11 (callK call 63 (fun tm => [g11 tm]) (put p12 (intK gSub (bin TT .sub 3) g12 (constE (.int .i64 (.ofNat 1))) (put p13 (callK call 140 (fun tm => [g10 tm, (constE (.int .i64 (.ofNat 0))) tm, g13 tm]) (put p14 ((F92j1 call round K))))))))))) (put p10 (put p11 (put p12 (put p13 (put p14 ((F92j1 call round K)) (.tuple [])) (.tuple [])) (.tuple [])) (.tuple [])) (.tuple [])))))))))))
theorem F92_eq (call round : Caller) (K : Nat) : funF TT call round K 92 = F92 call round K := by kernel_rfl
/-! 105 (*revetment/pool.Pool).All -/
def F105ret : CF := (ret1 g2)
def F105 (call round : Caller) (K : Nat) : FnT := funC 4 (boxK 49 g0 (put p1 (mv (constE .nilfunc) p2 (valK (makeFuncV 149 (fun tm => []) (fun tm => [g1 tm])) (put p3 (mv g3 p2 (F105ret)))))))
theorem F105_eq (call round : Caller) (K : Nat) : funF TT call round K 105 = F105 call round K := by kernel_rfl
/-! 108 revetment/frame.At -/
def F108ret : CF := (retC TT [.cell 8 120, .tmp 9])
def F108j0 (call round : Caller) (K : Nat) : CF :=
  loadNK 49 g10 (put p33 (storeK 49 g8 g33 (dropS (mv (constE (.int .i64 (.ofNat 0))) p9 (F108ret)))))
def F108j1 (call round : Caller) (K : Nat) : CF :=
  pickK g26 (constE (.bool true)) g30 (put p31 (condC g31 (valK (buildV (nthPR [(0, 1), (1, 1), (2, 1), (3, 1), (4, 1), (5, 44)]) (List.replicate 5 (.int .i64 (.ofNat 0)) ++ List.replicate 44 (.int .u8 (.ofNat 0))) (fun tm => [])) (put p32 (storeK 49 g8 g32 (dropS (mv (constE (.int .i64 (.ofNat 12))) p9 (F108ret)))))) ((F108j0 call round K))))
def F108j2 (call round : Caller) (K : Nat) : CF :=
  offK 1 g10 (put p22 (load1K g22 (put p23 (mv g2 p24 (intK gNeq (bin TT .neq 3) g23 g24 (put p25 (mv g25 p26 (guard2 (wantG o26 false) (offK 2 g10 (put p27 (load1K g27 (put p28 (mv g3 p29 (intK gNeq (bin TT .neq 3) g28 g29 (put p30 ((F108j1 call round K))))))))) (put p27 (put p28 (put p29 (put p30 ((F108j1 call round K)) (.tuple [])) (.tuple [])) (.tuple [])) (.tuple []))))))))))
def F108 (call round : Caller) (K : Nat) : FnT := funC 34 (boxK 72 g0 (put p4 (boxK 103 g1 (put p5 (allocK (List.replicate 5 (.int .i64 (.ofNat 0)) ++ List.replicate 44 (.int .u8 (.ofNat 0))) 120 (put p8 (mv (constE (.int .i64 (.ofNat 0))) p9 (loadNK 256 g4 (put p13 (loadNK 64 g5 (put p14 (callK call 154 (fun tm => [g13 tm, g14 tm]) (put p15 (mv g15 p12 (extrK 0 g12 (put p16 (extrK 1 g12 (put p17 (allocK (List.replicate 5 (.int .i64 (.ofNat 0)) ++ List.replicate 44 (.int .u8 (.ofNat 0))) 120 (put p10 (storeK 49 g10 g16 (dropS (mv g17 p11 (mv g11 p18 (intK gNeq (bin TT .neq 28) g18 (constE (.int .i64 (.ofNat 0))) (put p19 (condC g19 (valK (buildV (nthPR [(0, 1), (1, 1), (2, 1), (3, 1), (4, 1), (5, 44)]) (List.replicate 5 (.int .i64 (.ofNat 0)) ++ List.replicate 44 (.int .u8 (.ofNat 0))) (fun tm => [])) (put p20 (mv g11 p21 (storeK 49 g8 g20 (dropS (mv g21 p9 (F108ret))))))) ((F108j2 call round K)))))))))))))))))))))))))))))
theorem F108_eq (call round : Caller) (K : Nat) : funF TT call round K 108 = F108 call round K := by kernel_rfl
/-! 111 (revetment/geom.Geom).small -/
def F111ret : CF := (ret1 g2)
def F111j0 (call round : Caller) (K : Nat) : CF :=
  pickK g26 g29 (constE (.bool false)) (put p30 (mv g30 p2 (F111ret)))
def F111j1 (call round : Caller) (K : Nat) : CF :=
  pickK g21 g24 (constE (.bool false)) (put p25 (mv g25 p26 (guard2 (wantG o26 true) (offK 5 g1 (put p27 (load1K g27 (put p28 (callK call 140 (fun tm => [g28 tm, (constE (.int .i64 (.ofNat 4))) tm, (constE (.int .i64 (.ofNat 64))) tm]) (put p29 ((F111j0 call round K)))))))) (put p27 (put p28 (put p29 ((F111j0 call round K)) (.tuple [])) (.tuple [])) (.tuple [])))))
def F111j2 (call round : Caller) (K : Nat) : CF :=
  pickK g16 g19 (constE (.bool false)) (put p20 (mv g20 p21 (guard2 (wantG o21 true) (offK 4 g1 (put p22 (load1K g22 (put p23 (callK call 140 (fun tm => [g23 tm, (constE (.int .i64 (.ofNat 0))) tm, (constE (.int .i64 (.ofNat 4))) tm]) (put p24 ((F111j1 call round K)))))))) (put p22 (put p23 (put p24 ((F111j1 call round K)) (.tuple [])) (.tuple [])) (.tuple [])))))
def F111j3 (call round : Caller) (K : Nat) : CF :=
  pickK g11 g14 (constE (.bool false)) (put p15 (mv g15 p16 (guard2 (wantG o16 true) (offK 3 g1 (put p17 (load1K g17 (put p18 (callK call 140 (fun tm => [g18 tm, (constE (.int .i64 (.ofNat 1))) tm, (constE (.int .i64 (.ofNat 256))) tm]) (put p19 ((F111j2 call round K)))))))) (put p17 (put p18 (put p19 ((F111j2 call round K)) (.tuple [])) (.tuple [])) (.tuple [])))))
def F111j4 (call round : Caller) (K : Nat) : CF :=
  pickK g6 g9 (constE (.bool false)) (put p10 (mv g10 p11 (guard2 (wantG o11 true) (offK 2 g1 (put p12 (load1K g12 (put p13 (callK call 140 (fun tm => [g13 tm, (constE (.int .i64 (.ofNat 4))) tm, (constE (.int .i64 (.ofNat 64))) tm]) (put p14 ((F111j3 call round K)))))))) (put p12 (put p13 (put p14 ((F111j3 call round K)) (.tuple [])) (.tuple [])) (.tuple [])))))
def F111 (call round : Caller) (K : Nat) : FnT := funC 31 (boxK 23 g0 (put p1 (mv (constE (.bool false)) p2 (offK 0 g1 (put p3 (load1K g3 (put p4 (callK call 140 (fun tm => [g4 tm, (constE (.int .i64 (.ofNat 3))) tm, (constE (.int .i64 (.ofNat 8))) tm]) (put p5 (mv g5 p6 (guard2 (wantG o6 true) (offK 1 g1 (put p7 (load1K g7 (put p8 (callK call 140 (fun tm => [g8 tm, (constE (.int .i64 (.ofNat 1))) tm, (constE (.int .i64 (.ofNat 64))) tm]) (put p9 ((F111j4 call round K)))))))) (put p7 (put p8 (put p9 ((F111j4 call round K)) (.tuple [])) (.tuple [])) (.tuple [])))))))))))))
theorem F111_eq (call round : Caller) (K : Nat) : funF TT call round K 111 = F111 call round K := by kernel_rfl
end
end Go.Ev
