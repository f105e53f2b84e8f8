/- Printed by GenD.lean. -/
import Derived.Test.YtpkcfamminlmaaaGreatFa
set_option linter.unusedVariables false
set_option linter.unusedSimpArgs false
set_option linter.unusedSectionVars false
namespace Go.Ev
open Go.Proofs
set_option maxRecDepth 100000
noncomputable section
/-! 177 revetment/frame.Encode -/
def F177ret : CF := (retC TT [.cell 4 103, .tmp 5])
def F177j0 (call round : Caller) (K : Nat) : CF :=
  loadNK 256 g2 (put p40 (mv g7 p41 (callK call 211 (fun tm => [g40 tm, g41 tm]) (put p42 (valK (s2apV 64 g42) (put p43 (loadNK 64 g43 (put p44 (storeK 64 g4 g44 (dropS (mv (constE (.int .i64 (.ofNat 0))) p5 (F177ret))))))))))))
def F177j1 (call round : Caller) (K : Nat) : CF :=
  allocK [.nilslice, (.bool false)] 278 (put p6 (offK 0 g3 (put p13 (load1K g13 (put p14 (callK call 173 (fun tm => [g6 tm, (constE (.int .i64 (.ofNat 1))) tm, g14 tm]) (put p15 (callK call 173 (fun tm => [g6 tm, (constE (.int .i64 (.ofNat 1))) tm, (constE (.int .i64 (.ofNat 1))) tm]) (put p16 (offK 1 g3 (put p17 (load1K g17 (put p18 (callK call 173 (fun tm => [g6 tm, (constE (.int .i64 (.ofNat 2))) tm, g18 tm]) (put p19 (offK 2 g3 (put p20 (load1K g20 (put p21 (callK call 173 (fun tm => [g6 tm, (constE (.int .i64 (.ofNat 2))) tm, g21 tm]) (put p22 (offK 3 g3 (put p23 (load1K g23 (put p24 (callK call 173 (fun tm => [g6 tm, (constE (.int .i64 (.ofNat 4))) tm, g24 tm]) (put p25 (offK 4 g3 (put p26 (load1K g26 (put p27 (callK call 173 (fun tm => [g6 tm, (constE (.int .i64 (.ofNat 6))) tm, g27 tm]) (put p28 (offK 5 g3 (put p29 (valK (sliArrV 44 1 g29 (fun _ => none) (fun _ => none) (fun _ => none)) (put p30 (callK call 174 (fun tm => [g6 tm, g30 tm]) (put p31 (callK call 175 (fun tm => [g6 tm]) (put p33 (mv g33 p32 (extrK 0 g32 (put p34 (extrK 1 g32 (put p35 (mv g34 p7 (mv g35 p8 (mv g8 p36 (intK gNeq (bin TT .neq 28) g36 (constE (.int .i64 (.ofNat 0))) (put p37 (condC g37 (valK (buildV (evenP 1) (List.replicate 64 (.int .u8 (.ofNat 0))) (fun tm => [])) (put p38 (mv g8 p39 (storeK 64 g4 g38 (dropS (mv g39 p5 (F177ret))))))) ((F177j0 call round K))))))))))))))))))))))))))))))))))))))))))))))))))))))
def F177 (call round : Caller) (K : Nat) : FnT := funC 45 (boxK 72 g0 (put p2 (boxK 120 g1 (put p3 (allocK (List.replicate 64 (.int .u8 (.ofNat 0))) 103 (put p4 (mv (constE (.int .i64 (.ofNat 0))) p5 (loadNK 49 g3 (put p9 (callK call 129 (fun tm => [g9 tm]) (put p10 (notK g10 (put p11 (condC g11 (valK (buildV (evenP 1) (List.replicate 64 (.int .u8 (.ofNat 0))) (fun tm => [])) (put p12 (storeK 64 g4 g12 (dropS (mv (constE (.int .i64 (.ofNat 10))) p5 (F177ret)))))) ((F177j1 call round K))))))))))))))))
theorem F177_eq (call round : Caller) (K : Nat) : funF TT call round K 177 = F177 call round K := by kernel_rfl
/-! 178 (revetment/crc.Table).Step -/
def F178ret : CF := (ret1 g6)
def F178 (call round : Caller) (K : Nat) : FnT := funC 16 (boxK 72 g0 (put p3 (mv (constE (.int .u32 (.ofNat 0))) p6 (mv g1 p7 (binK (bin TT .shr 70) g7 (constE (.int .u64 (.ofNat 8))) (put p8 (mv g1 p9 (convK .u8 g9 (put p10 (mv g2 p11 (binK (bin TT .xor 5) g10 g11 (put p12 (ixArrK 256 1 g3 g12 (put p13 (load1K g13 (put p14 (binK (bin TT .xor 70) g8 g14 (put p15 (mv g15 p6 (F178ret))))))))))))))))))))
theorem F178_eq (call round : Caller) (K : Nat) : funF TT call round K 178 = F178 call round K := by kernel_rfl
/-! 179 (*revetment/plan.Drive).begin -/
def F179ret : CF := ret0
def F179j0 (call round : Caller) (K : Nat) : CF :=
  pickK g6 g13 (constE (.bool false)) (put p14 (condC g14 (mv g0 p15 (callK call 118 (fun tm => [g15 tm]) (put p16 (F179ret)))) (F179ret)))
def F179 (call round : Caller) (K : Nat) : FnT := funC 17 (mv g1 p4 (intK gGeq (bin TT .geq 3) g4 (constE (.int .i64 (.ofNat 0))) (put p5 (mv g5 p6 (guard2 (wantG o6 true) (mv g1 p7 (mv g0 p8 (nilK g8 (put p9 (offK 0 g9 (put p10 (load1K g10 (put p11 (callK call 74 (fun tm => [g11 tm]) (put p12 (intK gLss (bin TT .lss 3) g7 g12 (put p13 ((F179j0 call round K)))))))))))))) (put p7 (put p8 (put p9 (put p10 (put p11 (put p12 (put p13 ((F179j0 call round K)) (.tuple [])) (.tuple [])) (.tuple [])) (.tuple [])) (.tuple [])) (.tuple [])) (.tuple [])))))))
theorem F179_eq (call round : Caller) (K : Nat) : funF TT call round K 179 = F179 call round K := by kernel_rfl
/-! 180 (*revetment/zdev.Device).Read -/
def F180ret : CF := (retC TT [.cell 6 103, .tmp 7])
def F180j0 (call round : Caller) (K : Nat) : CF :=
  mv g0 p16 (nilK g16 (put p17 (offK 0 g17 (put p18 (load1K g18 (put p19 (mv g1 p20 (ixSliK 1 g19 g20 (put p21 (load1K g21 (put p22 (mv g2 p23 (callK call 213 (fun tm => [g22 tm, g23 tm]) (put p24 (extrK 0 g24 (put p25 (extrK 1 g24 (put p26 (storeK 64 g6 g25 (dropS (mv g26 p7 (F180ret))))))))))))))))))))))
def F180 (call round : Caller) (K : Nat) : FnT := funC 27 (allocK (List.replicate 64 (.int .u8 (.ofNat 0))) 103 (put p6 (mv (constE (.int .i64 (.ofNat 0))) p7 (mv g0 p9 (mv g1 p10 (callK call 212 (fun tm => [g9 tm, g10 tm]) (put p11 (mv g11 p8 (mv g8 p12 (intK gNeq (bin TT .neq 28) g12 (constE (.int .i64 (.ofNat 0))) (put p13 (condC g13 (valK (buildV (evenP 1) (List.replicate 64 (.int .u8 (.ofNat 0))) (fun tm => [])) (put p14 (mv g8 p15 (storeK 64 g6 g14 (dropS (mv g15 p7 (F180ret))))))) ((F180j0 call round K))))))))))))))
theorem F180_eq (call round : Caller) (K : Nat) : funF TT call round K 180 = F180 call round K := by kernel_rfl
/-! 181 revetment/entry.Of -/
def F181ret : CF := (retC TT [.cell 4 89, .tmp 5])
def F181j0 (call round : Caller) (K : Nat) : CF :=
  loadNK 38 g7 (put p42 (storeK 38 g4 g42 (dropS (mv (constE (.int .i64 (.ofNat 0))) p5 (F181ret)))))
def F181j1 (call round : Caller) (K : Nat) : CF :=
  pickK g36 (constE (.bool true)) g39 (put p40 (condC g40 (valK (buildV (nthPR [(0, 1), (1, 1), (2, 1), (3, 1), (4, 1), (5, 1), (6, 32)]) (List.replicate 6 (.int .i64 (.ofNat 0)) ++ List.replicate 32 (.int .u8 (.ofNat 0))) (fun tm => [])) (put p41 (storeK 38 g4 g41 (dropS (mv (constE (.int .i64 (.ofNat 10))) p5 (F181ret)))))) ((F181j0 call round K))))
def F181 (call round : Caller) (K : Nat) : FnT := funC 43 (boxK 118 g1 (put p3 (allocK (List.replicate 6 (.int .i64 (.ofNat 0)) ++ List.replicate 32 (.int .u8 (.ofNat 0))) 89 (put p4 (mv (constE (.int .i64 (.ofNat 0))) p5 (valK (sliArrV 44 1 g3 (fun _ => none) (fun _ => none) (fun _ => none)) (put p10 (callK call 194 (fun tm => [g10 tm]) (put p11 (mv g11 p6 (mv g0 p12 (mv g6 p13 (callK call 195 (fun tm => [g13 tm, (constE (.int .i64 (.ofNat 6))) tm]) (put p14 (mv g6 p15 (callK call 195 (fun tm => [g15 tm, (constE (.int .i64 (.ofNat 1))) tm]) (put p16 (mv g6 p17 (callK call 195 (fun tm => [g17 tm, (constE (.int .i64 (.ofNat 1))) tm]) (put p18 (mv g6 p19 (callK call 195 (fun tm => [g19 tm, (constE (.int .i64 (.ofNat 2))) tm]) (put p20 (mv g6 p21 (callK call 195 (fun tm => [g21 tm, (constE (.int .i64 (.ofNat 2))) tm]) (put p22 (valK (buildV (nthPR [(0, 1), (1, 1), (2, 1), (3, 1), (4, 1), (5, 1), (6, 32)]) (List.replicate 6 (.int .i64 (.ofNat 0)) ++ List.replicate 32 (.int .u8 (.ofNat 0))) (fun tm => [(0, g12 tm), (1, g14 tm), (2, g16 tm), (3, g18 tm), (4, g20 tm), (5, g22 tm)])) (put p23 (allocK (List.replicate 6 (.int .i64 (.ofNat 0)) ++ List.replicate 32 (.int .u8 (.ofNat 0))) 89 (put p7 (storeK 38 g7 g23 (dropS (drawS fun base s => offK 6 g7 (put p24 (valK (sliArrV 32 1 g24 (fun _ => none) (fun _ => none) (fun _ => none)) (put p25 (moveK g6 (put p26 (dBig 3 4 s (fun k => callK call 196 (fun tm => [g26 tm, (constE (.int .i64 (.ofNat 32))) tm]) (k)) fun s => put p27 (dBig 4 15 s (fun k => slowK (builtinM TT .copy #[174, 174] (fun tm => [g25 tm, g27 tm])) (k)) fun s => put p28 (loadNK 38 g7 (put p30 (callK call 128 (fun tm => [g30 tm]) (put p31 (mv g31 p29 (extrK 0 g29 (put p32 (extrK 1 g29 (put p33 (allocK (List.replicate 44 (.int .u8 (.ofNat 0))) 118 (put p8 (storeK 44 g8 g32 (dropS (mv g33 p9 (mv g9 p34 (intK gNeq (bin TT .neq 28) g34 (constE (.int .i64 (.ofNat 0))) (put p35 (mv g35 p36 (guard2 (wantG o36 false) (loadNK 44 g8 (put p37 (loadNK 44 g3 (put p38 (intK gNeq (bin TT .neq 118) g37 g38 (put p39 ((F181j1 call round K)))))))) (put p37 (put p38 (put p39 ((F181j1 call round K)) (.tuple [])) (.tuple [])) (.tuple [])))))))))))))))))))))))))))))))))))))))))))))))))))))))))))))
theorem F181_eq (call round : Caller) (K : Nat) : funF TT call round K 181 = F181 call round K := by kernel_rfl
/-! 190 (*revetment/queue.Queue[int]).All$1 -/
def F190ret : CF := ret0
def F190j1 (call round : Caller) (K : Nat) (ih0_ : CF) : CF :=
  intK gAdd (bin TT .add 3) g8 (constE (.int .i64 (.ofNat 1))) (put p18 (mv g18 p8 (ih0_)))
def F190j2 (call round : Caller) (K : Nat) (ih0_ : CF) : CF :=
  mv g8 p10 (ixSliK 1 g6 g8 (put p11 (load1K g11 (put p12 (mv g10 p3 (mv g12 p4 (mv g0 p13 (mv g3 p14 (mv g4 p15 (callVK call round g13 (fun tm => [g14 tm, g15 tm]) (put p16 (notK g16 (put p17 (condC g17 (F190ret) ((F190j1 call round K ih0_))))))))))))))))
def F190b3 (call round : Caller) (K : Nat) (ih0_ : CF) : CF :=
  intK gLss (bin TT .lss 3) g8 g7 (put p9 (condC g9 ((F190j2 call round K ih0_)) (F190ret)))
def F190 (call round : Caller) (K : Nat) : FnT := funC 19 (load1K g1 (put p5 (callK call 191 (fun tm => [g5 tm]) (put p6 (lenK g6 (put p7 (mv (constE (.int .i64 (.ofNat 0))) p8 (loopC (F190b3 call round K) K))))))))
theorem F190_eq (call round : Caller) (K : Nat) : funF TT call round K 190 = F190 call round K := by kernel_rfl
/-! 191 (*revetment/queue.Queue[int]).list -/
def F191ret : CF := (ret1 g2)
def F191j0 (call round : Caller) (K : Nat) : CF :=
  mv g3 p34 (mv g34 p2 (F191ret))
def F191j2 (call round : Caller) (K : Nat) (ih1_ : CF) : CF :=
  intK gAdd (bin TT .add 3) g26 (constE (.int .i64 (.ofNat 1))) (put p33 (mv g33 p26 (ih1_)))
def F191j3 (call round : Caller) (K : Nat) (ih1_ : CF) : CF :=
  ixSliK 1 g24 g26 (put p28 (load1K g28 (put p29 (mv g29 p7 (mv g0 p30 (mv g7 p31 (callK call 61 (fun tm => [g30 tm, g31 tm]) (put p32 ((F191j2 call round K ih1_))))))))))
def F191b4 (call round : Caller) (K : Nat) (ih1_ : CF) : CF :=
  intK gLss (bin TT .lss 3) g26 g25 (put p27 (condC g27 ((F191j3 call round K ih1_)) ((F191j0 call round K))))
def F191j5 (call round : Caller) (K : Nat) : CF :=
  mv g3 p24 (lenK g24 (put p25 (mv (constE (.int .i64 (.ofNat 0))) p26 (loopC (F191b4 call round K) K))))
def F191j7 (call round : Caller) (K : Nat) (ih6_ : CF) : CF :=
  intK gAdd (bin TT .add 3) g10 (constE (.int .i64 (.ofNat 1))) (put p23 (mv g23 p10 (ih6_)))
def F191j8 (call round : Caller) (K : Nat) (ih6_ : CF) : CF :=
  mv g0 p13 (callK call 171 (fun tm => [g13 tm]) (put p14 (mv g14 p12 (extrK 0 g12 (put p15 (extrK 1 g12 (put p16 (mv g15 p4 (mv g16 p5 (mv g5 p17 (intK gEql (bin TT .eql 28) g17 (constE (.int .i64 (.ofNat 0))) (put p18 (condC g18 (mv g3 p19 (mv g4 p20 (slowK (buildSliceM [(.int .i64 (.ofNat 0))] 3 1 1 (fun tm => [(0, g20 tm)])) (put p21 (slowK (appendM 3 1 g19 g21) (put p22 (mv g22 p3 ((F191j7 call round K ih6_))))))))) ((F191j7 call round K ih6_)))))))))))))))
def F191b9 (call round : Caller) (K : Nat) (ih6_ : CF) : CF :=
  intK gLss (bin TT .lss 3) g10 g9 (put p11 (condC g11 ((F191j8 call round K ih6_)) ((F191j5 call round K))))
def F191 (call round : Caller) (K : Nat) : FnT := funC 35 (mv (constE .nilslice) p2 (mv (constE .nilslice) p3 (mv g0 p8 (callK call 71 (fun tm => [g8 tm]) (put p9 (mv (constE (.int .i64 (.ofNat 0))) p10 (loopC (F191b9 call round K) K)))))))
theorem F191_eq (call round : Caller) (K : Nat) : funF TT call round K 191 = F191 call round K := by kernel_rfl
/-! 193 (revetment/crc.Table).Open -/
def F193ret : CF := (ret2 g4 g5)
def F193j0 (call round : Caller) (K : Nat) : CF :=
  slowK (buildSliceM [(.int .u8 (.ofNat 0))] 5 1 0 (fun tm => [])) (put p35 (mv g1 p36 (mv g6 p37 (valK (sliV 1 g36 (fun _ => none) (fun tm => some (g37 tm)) (fun _ => none)) (put p38 (slowK (appendM 5 1 g35 g38) (put p39 (mv g39 p4 (mv (constE (.int .i64 (.ofNat 0))) p5 (F193ret))))))))))
def F193j2 (call round : Caller) (K : Nat) (ih1_ : CF) : CF :=
  intK gAdd (bin TT .add 3) g24 (constE (.int .i64 (.ofNat 1))) (put p34 (mv g34 p24 (ih1_)))
def F193j3 (call round : Caller) (K : Nat) (ih1_ : CF) : CF :=
  mv g7 p32 (binK (bin TT .shr 70) g32 (constE (.int .u64 (.ofNat 8))) (put p33 (mv g33 p7 ((F193j2 call round K ih1_)))))
def F193j4 (call round : Caller) (K : Nat) (ih1_ : CF) : CF :=
  ixSliK 1 g22 g24 (put p26 (load1K g26 (put p27 (mv g27 p9 (mv g9 p28 (mv g7 p29 (convK .u8 g29 (put p30 (intK gNeq (bin TT .neq 5) g28 g30 (put p31 (condC g31 (mv (constE .nilslice) p4 (mv (constE (.int .i64 (.ofNat 11))) p5 (F193ret))) ((F193j3 call round K ih1_)))))))))))))
def F193b5 (call round : Caller) (K : Nat) (ih1_ : CF) : CF :=
  intK gLss (bin TT .lss 3) g24 g23 (put p25 (condC g25 ((F193j4 call round K ih1_)) ((F193j0 call round K))))
def F193j6 (call round : Caller) (K : Nat) : CF :=
  drawS fun base s => dLoad 0 0 base g2 s fun s => loadNK 256 g2 (put p15 (moveK g1 (put p16 (moveK g6 (put p17 (valK (sliV 1 g16 (fun _ => none) (fun tm => some (g17 tm)) (fun _ => none)) (put p18 (dBig 4 15 s (fun k => callK call 82 (fun tm => [g15 tm, g18 tm]) (k)) fun s => put p19 (moveK g19 (put p7 (mv g1 p20 (mv g6 p21 (valK (sliV 1 g20 (fun tm => some (g21 tm)) (fun _ => none) (fun _ => none)) (put p22 (lenK g22 (put p23 (mv (constE (.int .i64 (.ofNat 0))) p24 (loopC (F193b5 call round K) K))))))))))))))))))
def F193 (call round : Caller) (K : Nat) : FnT := funC 40 (boxK 72 g0 (put p2 (mv (constE .nilslice) p4 (mv (constE (.int .i64 (.ofNat 0))) p5 (mv g1 p10 (lenK g10 (put p11 (intK gSub (bin TT .sub 3) g11 (constE (.int .i64 (.ofNat 4))) (put p12 (mv g12 p6 (mv g6 p13 (intK gLss (bin TT .lss 3) g13 (constE (.int .i64 (.ofNat 0))) (put p14 (condC g14 (mv (constE .nilslice) p4 (mv (constE (.int .i64 (.ofNat 14))) p5 (F193ret))) ((F193j6 call round K))))))))))))))))
theorem F193_eq (call round : Caller) (K : Nat) : funF TT call round K 193 = F193 call round K := by kernel_rfl
/-! 194 revetment/codec.New -/
def F194ret : CF := (ret1 g2)
def F194 (call round : Caller) (K : Nat) : FnT := funC 8 (mv (constE .nilptr) p2 (slowK (buildSliceM [(.int .u8 (.ofNat 0))] 5 1 0 (fun tm => [])) (put p3 (mv g0 p4 (slowK (appendM 5 1 g3 g4) (put p5 (valK (buildV (nthPR [(0, 1), (1, 1)]) [.nilslice, (.bool false)] (fun tm => [(0, g5 tm)])) (put p6 (boxK 316 g6 (put p7 (mv g7 p2 (F194ret))))))))))))
theorem F194_eq (call round : Caller) (K : Nat) : funF TT call round K 194 = F194 call round K := by kernel_rfl
/-! 195 (*revetment/codec.Reader).Num -/
def F195ret : CF := (ret1 g4)
def F195j0 (call round : Caller) (K : Nat) : CF :=
  mv g5 p31 (mv g31 p4 (F195ret))
def F195j2 (call round : Caller) (K : Nat) (ih1_ : CF) : CF :=
  intK gAdd (bin TT .add 3) g17 (constE (.int .i64 (.ofNat 1))) (put p30 (mv g30 p17 (ih1_)))
def F195j3 (call round : Caller) (K : Nat) (ih1_ : CF) : CF :=
  mv g17 p19 (ixSliK 1 g15 g17 (put p20 (load1K g20 (put p21 (mv g19 p6 (mv g21 p7 (mv g5 p22 (mv g7 p23 (convK .i64 g23 (put p24 (mv g6 p25 (intK gMul (bin TT .mul 3) (constE (.int .i64 (.ofNat 8))) g25 (put p26 (convK .u64 g26 (put p27 (binK (bin TT .shl 3) g24 g27 (put p28 (binK (bin TT .or 3) g22 g28 (put p29 (mv g29 p5 ((F195j2 call round K ih1_))))))))))))))))))))))
def F195b4 (call round : Caller) (K : Nat) (ih1_ : CF) : CF :=
  intK gLss (bin TT .lss 3) g17 g16 (put p18 (condC g18 ((F195j3 call round K ih1_)) ((F195j0 call round K))))
def F195j5 (call round : Caller) (K : Nat) : CF :=
  mv (constE (.int .i64 (.ofNat 0))) p5 (mv g0 p13 (mv g1 p14 (callK call 220 (fun tm => [g13 tm, g14 tm]) (put p15 (lenK g15 (put p16 (mv (constE (.int .i64 (.ofNat 0))) p17 (loopC (F195b4 call round K) K))))))))
def F195 (call round : Caller) (K : Nat) : FnT := funC 32 (mv (constE (.int .i64 (.ofNat 0))) p4 (mv g1 p8 (callK call 209 (fun tm => [g8 tm]) (put p9 (notK g9 (put p10 (condC g10 (mv g0 p11 (callK call 220 (fun tm => [g11 tm, (constE (.int .i64 (.negSucc 0))) tm]) (put p12 (mv (constE (.int .i64 (.ofNat 0))) p4 (F195ret))))) ((F195j5 call round K)))))))))
theorem F195_eq (call round : Caller) (K : Nat) : funF TT call round K 195 = F195 call round K := by kernel_rfl
/-! 196 (*revetment/codec.Reader).Bytes -/
def F196ret : CF := (ret1 g4)
def F196 (call round : Caller) (K : Nat) : FnT := funC 8 (mv (constE .nilslice) p4 (mv g0 p5 (mv g1 p6 (callK call 220 (fun tm => [g5 tm, g6 tm]) (put p7 (mv g7 p4 (F196ret)))))))
theorem F196_eq (call round : Caller) (K : Nat) : funF TT call round K 196 = F196 call round K := by kernel_rfl
/-! 197 (*revetment/codec.Reader).Done -/
def F197ret : CF := (ret1 g2)
def F197j0 (call round : Caller) (K : Nat) : CF :=
  mv (constE (.int .i64 (.ofNat 0))) p2 (F197ret)
def F197j1 (call round : Caller) (K : Nat) : CF :=
  pickK g7 (constE (.bool true)) g13 (put p14 (condC g14 (mv (constE (.int .i64 (.ofNat 14))) p2 (F197ret)) ((F197j0 call round K))))
def F197 (call round : Caller) (K : Nat) : FnT := funC 15 (mv (constE (.int .i64 (.ofNat 0))) p2 (mv g0 p3 (nilK g3 (put p4 (offK 1 g4 (put p5 (load1K g5 (put p6 (mv g6 p7 (guard2 (wantG o7 false) (mv g0 p8 (nilK g8 (put p9 (offK 0 g9 (put p10 (load1K g10 (put p11 (lenK g11 (put p12 (intK gGtr (bin TT .gtr 3) g12 (constE (.int .i64 (.ofNat 0))) (put p13 ((F197j1 call round K))))))))))))) (put p8 (put p9 (put p10 (put p11 (put p12 (put p13 ((F197j1 call round K)) (.tuple [])) (.tuple [])) (.tuple [])) (.tuple [])) (.tuple [])) (.tuple []))))))))))))
theorem F197_eq (call round : Caller) (K : Nat) : funF TT call round K 197 = F197 call round K := by kernel_rfl
/-! 203 (*revetment/zdev.Device).Append -/
def F203ret : CF := (ret2 g6 g7)
def F203j0 (call round : Caller) (K : Nat) : CF :=
  drawS fun base s => moveK g0 (put p33 (nilK g33 (put p34 (offK 0 g34 (put p35 (dLoad 3 7 base g35 s fun s => load1K g35 (put p36 (moveK g1 (put p37 (ixSliK 1 g36 g37 (put p38 (dLoad 6 63 base g38 s fun s => load1K g38 (put p39 (dLoad 7 0 base g5 s fun s => loadNK 64 g5 (put p40 (dBig 8 255 s (fun k => callK call 223 (fun tm => [g39 tm, g40 tm]) (k)) fun s => put p41 (extrK 0 g41 (put p42 (extrK 1 g41 (put p43 (moveK g42 (put p6 (moveK g43 (put p7 (F203ret)))))))))))))))))))))))))
def F203j1 (call round : Caller) (K : Nat) (base : Nat) (s : DX) : CF :=
  pickK g24 g31 (constE (.bool false)) (put p32 (condC g32 (mv (constE (.int .i64 (.ofNat 0))) p6 (mv (constE (.int .i64 (.ofNat 33))) p7 (F203ret))) ((F203j0 call round K))))
def F203j2 (call round : Caller) (K : Nat) : CF :=
  drawS fun base s => moveK g0 (put p15 (nilK g15 (put p16 (offK 0 g16 (put p17 (dLoad 3 7 base g17 s fun s => load1K g17 (put p18 (moveK g1 (put p19 (ixSliK 1 g18 g19 (put p20 (dLoad 6 63 base g20 s fun s => load1K g20 (put p21 (dBig 7 127 s (fun k => callK call 86 (fun tm => [g21 tm]) (k)) fun s => put p22 (intK gEql (bin TT .eql 3) g22 (constE (.int .i64 (.ofNat 0))) (put p23 (moveK g23 (put p24 (guard2 (wantG o24 true) (moveK g0 (put p25 (dBig 11 2047 s (fun k => callK call 222 (fun tm => [g25 tm]) (k)) fun s => put p26 (moveK g0 (put p27 (nilK g27 (put p28 (offK 2 g28 (put p29 (dLoad 15 29695 base g29 s fun s => load1K g29 (put p30 (intK gGeq (bin TT .geq 3) g26 g30 (put p31 ((F203j1 call round K base s))))))))))))))) (put p25 (put p26 (put p27 (put p28 (put p29 (put p30 (put p31 ((F203j1 call round K base s)) (.tuple [])) (.tuple [])) (.tuple [])) (.tuple [])) (.tuple [])) (.tuple [])) (.tuple [])))))))))))))))))))))
def F203 (call round : Caller) (K : Nat) : FnT := funC 44 (boxK 103 g2 (put p5 (mv (constE (.int .i64 (.ofNat 0))) p6 (mv (constE (.int .i64 (.ofNat 0))) p7 (mv g0 p9 (mv g1 p10 (callK call 212 (fun tm => [g9 tm, g10 tm]) (put p11 (mv g11 p8 (mv g8 p12 (intK gNeq (bin TT .neq 28) g12 (constE (.int .i64 (.ofNat 0))) (put p13 (condC g13 (mv g8 p14 (mv (constE (.int .i64 (.ofNat 0))) p6 (mv g14 p7 (F203ret)))) ((F203j2 call round K)))))))))))))))
theorem F203_eq (call round : Caller) (K : Nat) : funF TT call round K 203 = F203 call round K := by kernel_rfl
/-! 204 (*revetment/zdev.Device).Finish -/
def F204ret : CF := (ret1 g4)
def F204j0 (call round : Caller) (K : Nat) : CF :=
  mv g0 p12 (nilK g12 (put p13 (offK 0 g13 (put p14 (load1K g14 (put p15 (mv g1 p16 (ixSliK 1 g15 g16 (put p17 (load1K g17 (put p18 (callK call 224 (fun tm => [g18 tm]) (put p19 (mv g19 p4 (F204ret)))))))))))))))
def F204 (call round : Caller) (K : Nat) : FnT := funC 20 (mv (constE (.int .i64 (.ofNat 0))) p4 (mv g0 p6 (mv g1 p7 (callK call 212 (fun tm => [g6 tm, g7 tm]) (put p8 (mv g8 p5 (mv g5 p9 (intK gNeq (bin TT .neq 28) g9 (constE (.int .i64 (.ofNat 0))) (put p10 (condC g10 (mv g5 p11 (mv g11 p4 (F204ret))) ((F204j0 call round K))))))))))))
theorem F204_eq (call round : Caller) (K : Nat) : funF TT call round K 204 = F204 call round K := by kernel_rfl
/-! 205 (*revetment/plan.Drive).spoil -/
def F205ret : CF := ret0
def F205j0 (call round : Caller) (K : Nat) : CF :=
  offK 2 g3 (put p18 (load1K g18 (put p19 (offK 3 g3 (put p20 (load1K g20 (put p21 (valK (buildV (nthPR [(0, 1), (1, 1)]) [(.int .i64 (.ofNat 0)), (.int .i64 (.ofNat 0))] (fun tm => [(0, g19 tm), (1, g21 tm)])) (put p22 (allocK [(.int .i64 (.ofNat 0)), (.int .i64 (.ofNat 0))] 243 (put p4 (storeK 2 g4 g22 (dropS (drawS fun base s => moveK g0 (put p23 (nilK g23 (put p24 (offK 3 g24 (put p25 (dLoad 3 7 base g25 s fun s => load1K g25 (put p26 (dLoad 4 0 base g4 s fun s => loadNK 2 g4 (put p27 (dBig 5 31 s (fun k => slowK (lookupM TT 243 320 false g26 g27) (k)) fun s => put p28 (dNew 6 s fun s => allocK (List.replicate 64 (.int .u8 (.ofNat 0)) ++ [(.int .i64 (.ofNat 0))]) 320 (put p5 (dSto 7 127 g5 s fun s => storeK 65 g5 g28 (dropS (drawS fun base s => moveK g0 (put p29 (nilK g29 (put p30 (offK 3 g30 (put p31 (dLoad 3 7 base g31 s fun s => load1K g31 (put p32 (dLoad 4 0 base g4 s fun s => loadNK 2 g4 (put p33 (offK 0 g5 (put p34 (dLoad 6 32 base g34 s fun s => loadNK 64 g34 (put p35 (offK 4 g3 (put p36 (dLoad 8 128 base g36 s fun s => loadNK 64 g36 (put p37 (dBig 9 480 s (fun k => callK call 226 (fun tm => [g35 tm, g37 tm]) (k)) fun s => put p38 (offK 64 g5 (put p39 (dLoad 11 1024 base g39 s fun s => load1K g39 (put p40 (intK gAdd (bin TT .add 3) g40 (constE (.int .i64 (.ofNat 1))) (put p41 (valK (buildV (nthPR [(0, 64), (64, 1)]) (List.replicate 64 (.int .u8 (.ofNat 0)) ++ [(.int .i64 (.ofNat 0))]) (fun tm => [(0, g38 tm), (1, g41 tm)])) (put p42 (dBig 14 16383 s (fun k => slowK (mapUpdateM TT 243 g32 g33 g42) (k)) fun s => dropS (F205ret)))))))))))))))))))))))))))))))))))))))))))))))))))))))))
def F205 (call round : Caller) (K : Nat) : FnT := funC 43 (boxK 105 g1 (put p3 (drawS fun base s => moveK g0 (put p6 (nilK g6 (put p7 (offK 0 g7 (put p8 (dLoad 3 7 base g8 s fun s => load1K g8 (put p9 (offK 2 g3 (put p10 (dLoad 5 16 base g10 s fun s => load1K g10 (put p11 (offK 3 g3 (put p12 (dLoad 7 64 base g12 s fun s => load1K g12 (put p13 (offK 4 g3 (put p14 (dLoad 9 256 base g14 s fun s => loadNK 64 g14 (put p15 (dBig 10 1023 s (fun k => callK call 225 (fun tm => [g9 tm, g11 tm, g13 tm, g15 tm]) (k)) fun s => put p16 (intK gNeq (bin TT .neq 28) g16 (constE (.int .i64 (.ofNat 0))) (put p17 (condC g17 (F205ret) ((F205j0 call round K))))))))))))))))))))))))))))
theorem F205_eq (call round : Caller) (K : Nat) : funF TT call round K 205 = F205 call round K := by kernel_rfl
/-! 206 (*revetment/zdev.Device).Fail -/
def F206ret : CF := (ret1 g6)
def F206j0 (call round : Caller) (K : Nat) : CF :=
  mv g0 p11 (nilK g11 (put p12 (offK 0 g12 (put p13 (load1K g13 (put p14 (mv g1 p15 (ixSliK 1 g14 g15 (put p16 (load1K g16 (put p17 (mv g2 p18 (callK call 227 (fun tm => [g17 tm, g18 tm]) (put p19 (mv (constE (.int .i64 (.ofNat 0))) p6 (F206ret))))))))))))))))
def F206 (call round : Caller) (K : Nat) : FnT := funC 20 (mv (constE (.int .i64 (.ofNat 0))) p6 (mv g0 p7 (mv g1 p8 (callK call 85 (fun tm => [g7 tm, g8 tm]) (put p9 (notK g9 (put p10 (condC g10 (mv (constE (.int .i64 (.ofNat 13))) p6 (F206ret)) ((F206j0 call round K))))))))))
theorem F206_eq (call round : Caller) (K : Nat) : funF TT call round K 206 = F206 call round K := by kernel_rfl
/-! 207 revetment/entry.within -/
def F207ret : CF := (ret1 g6)
def F207j0 (call round : Caller) (K : Nat) : CF :=
  pickK g10 g13 (constE (.bool false)) (put p14 (mv g14 p6 (F207ret)))
def F207 (call round : Caller) (K : Nat) : FnT := funC 15 (mv (constE (.bool false)) p6 (mv g0 p7 (mv g1 p8 (intK gGeq (bin TT .geq 3) g7 g8 (put p9 (mv g9 p10 (guard2 (wantG o10 true) (mv g0 p11 (mv g2 p12 (intK gLeq (bin TT .leq 3) g11 g12 (put p13 ((F207j0 call round K)))))) (put p11 (put p12 (put p13 ((F207j0 call round K)) (.tuple [])) (.tuple [])) (.tuple [])))))))))
theorem F207_eq (call round : Caller) (K : Nat) : funF TT call round K 207 = F207 call round K := by kernel_rfl
/-! 208 (revetment/entry.Entry).counts -/
def F208ret : CF := (ret1 g2)
def F208j0 (call round : Caller) (K : Nat) : CF :=
  mv (constE (.bool false)) p2 (F208ret)
def F208j1 (call round : Caller) (K : Nat) : CF :=
  pickK g10 g13 (constE (.bool false)) (put p14 (mv g14 p2 (F208ret)))
def F208j2 (call round : Caller) (K : Nat) : CF :=
  pickK g28 g32 (constE (.bool false)) (put p33 (mv g33 p2 (F208ret)))
def F208j3 (call round : Caller) (K : Nat) : CF :=
  pickK g20 g26 (constE (.bool false)) (put p27 (mv g27 p28 (guard2 (wantG o28 true) (offK 6 g1 (put p29 (loadNK 32 g29 (put p30 (valK (buildV (evenP 1) (List.replicate 32 (.int .u8 (.ofNat 0))) (fun tm => [])) (put p31 (intK gEql (bin TT .eql 87) g30 g31 (put p32 ((F208j2 call round K)))))))))) (put p29 (put p30 (put p31 (put p32 ((F208j2 call round K)) (.tuple [])) (.tuple [])) (.tuple [])) (.tuple [])))))
def F208j4 (call round : Caller) (K : Nat) : CF :=
  pickK g39 g42 (constE (.bool false)) (put p43 (mv g43 p2 (F208ret)))
def F208 (call round : Caller) (K : Nat) : FnT := funC 44 (boxK 89 g0 (put p1 (mv (constE (.bool false)) p2 (offK 0 g1 (put p3 (load1K g3 (put p4 (intK gEql (bin TT .eql 3) g4 (constE (.int .i64 (.ofNat 1))) (put p6 (mv g6 p5 (condC g5 (offK 2 g1 (put p7 (load1K g7 (put p8 (callK call 207 (fun tm => [g8 tm, (constE (.int .i64 (.ofNat 1))) tm, (constE (.int .i64 (.ofNat 4))) tm]) (put p9 (mv g9 p10 (guard2 (wantG o10 true) (offK 4 g1 (put p11 (load1K g11 (put p12 (intK gEql (bin TT .eql 3) g12 (constE (.int .i64 (.ofNat 0))) (put p13 ((F208j1 call round K)))))))) (put p11 (put p12 (put p13 ((F208j1 call round K)) (.tuple [])) (.tuple [])) (.tuple [])))))))))) (intK gEql (bin TT .eql 3) g4 (constE (.int .i64 (.ofNat 2))) (put p16 (mv g16 p15 (condC g15 (offK 2 g1 (put p17 (load1K g17 (put p18 (intK gEql (bin TT .eql 3) g18 (constE (.int .i64 (.ofNat 1))) (put p19 (mv g19 p20 (guard2 (wantG o20 true) (offK 4 g1 (put p21 (load1K g21 (put p22 (offK 3 g1 (put p23 (load1K g23 (put p24 (intK gSub (bin TT .sub 3) (constE (.int .i64 (.ofNat 256))) g24 (put p25 (callK call 207 (fun tm => [g22 tm, (constE (.int .i64 (.ofNat 1))) tm, g25 tm]) (put p26 ((F208j3 call round K)))))))))))))) (put p21 (put p22 (put p23 (put p24 (put p25 (put p26 ((F208j3 call round K)) (.tuple [])) (.tuple [])) (.tuple [])) (.tuple [])) (.tuple [])) (.tuple [])))))))))) (intK gEql (bin TT .eql 3) g4 (constE (.int .i64 (.ofNat 3))) (put p35 (mv g35 p34 (condC g34 (offK 2 g1 (put p36 (load1K g36 (put p37 (intK gEql (bin TT .eql 3) g37 (constE (.int .i64 (.ofNat 1))) (put p38 (mv g38 p39 (guard2 (wantG o39 true) (offK 4 g1 (put p40 (load1K g40 (put p41 (intK gEql (bin TT .eql 3) g41 (constE (.int .i64 (.ofNat 0))) (put p42 ((F208j4 call round K)))))))) (put p40 (put p41 (put p42 ((F208j4 call round K)) (.tuple [])) (.tuple [])) (.tuple [])))))))))) ((F208j0 call round K)))))))))))))))))))))
theorem F208_eq (call round : Caller) (K : Nat) : funF TT call round K 208 = F208 call round K := by kernel_rfl
/-! 209 revetment/codec.within -/
def F209ret : CF := (ret1 g2)
def F209j0 (call round : Caller) (K : Nat) : CF :=
  pickK g5 g7 (constE (.bool false)) (put p8 (mv g8 p2 (F209ret)))
def F209 (call round : Caller) (K : Nat) : FnT := funC 9 (mv (constE (.bool false)) p2 (mv g0 p3 (intK gGeq (bin TT .geq 3) g3 (constE (.int .i64 (.ofNat 1))) (put p4 (mv g4 p5 (guard2 (wantG o5 true) (mv g0 p6 (intK gLeq (bin TT .leq 3) g6 (constE (.int .i64 (.ofNat 7))) (put p7 ((F209j0 call round K))))) (put p6 (put p7 ((F209j0 call round K)) (.tuple [])) (.tuple []))))))))
theorem F209_eq (call round : Caller) (K : Nat) : funF TT call round K 209 = F209 call round K := by kernel_rfl
/-! 210 revetment/codec.Width -/
def F210ret : CF := (ret1 g2)
def F210j0 (call round : Caller) (K : Nat) : CF :=
  mv g3 p17 (mv g17 p2 (F210ret))
def F210j1 (call round : Caller) (K : Nat) : CF :=
  pickK g13 (constE (.bool true)) g15 (put p16 (condC g16 (mv (constE (.int .i64 (.ofNat 8))) p2 (F210ret)) ((F210j0 call round K))))
def F210j2 (call round : Caller) (K : Nat) : CF :=
  mv g0 p11 (intK gLss (bin TT .lss 3) g11 (constE (.int .i64 (.ofNat 0))) (put p12 (mv g12 p13 (guard2 (wantG o13 false) (mv g3 p14 (intK gGtr (bin TT .gtr 3) g14 (constE (.int .i64 (.ofNat 7))) (put p15 ((F210j1 call round K))))) (put p14 (put p15 ((F210j1 call round K)) (.tuple [])) (.tuple []))))))
def F210j4 (call round : Caller) (K : Nat) (ih3_ : CF) : CF :=
  mv g0 p7 (binK (bin TT .shr 3) g7 (constE (.int .u64 (.ofNat 8))) (put p8 (mv g8 p0 (mv g3 p9 (intK gAdd (bin TT .add 3) g9 (constE (.int .i64 (.ofNat 1))) (put p10 (mv g10 p3 (ih3_))))))))
def F210b5 (call round : Caller) (K : Nat) (ih3_ : CF) : CF :=
  mv g0 p4 (binK (bin TT .shr 3) g4 (constE (.int .u64 (.ofNat 8))) (put p5 (intK gGtr (bin TT .gtr 3) g5 (constE (.int .i64 (.ofNat 0))) (put p6 (condC g6 ((F210j4 call round K ih3_)) ((F210j2 call round K)))))))
def F210 (call round : Caller) (K : Nat) : FnT := funC 18 (mv (constE (.int .i64 (.ofNat 0))) p2 (mv (constE (.int .i64 (.ofNat 1))) p3 (loopC (F210b5 call round K) K)))
theorem F210_eq (call round : Caller) (K : Nat) : funF TT call round K 210 = F210 call round K := by kernel_rfl
/-! 211 (revetment/crc.Table).Seal -/
def F211ret : CF := (ret1 g4)
def F211 (call round : Caller) (K : Nat) : FnT := funC 25 (boxK 72 g0 (put p2 (mv (constE .nilslice) p4 (loadNK 256 g2 (put p6 (mv g1 p7 (callK call 82 (fun tm => [g6 tm, g7 tm]) (put p8 (mv g8 p5 (slowK (buildSliceM [(.int .u8 (.ofNat 0))] 5 1 0 (fun tm => [])) (put p9 (mv g1 p10 (slowK (appendM 5 1 g9 g10) (put p11 (mv g5 p12 (convK .u8 g12 (put p13 (mv g5 p14 (binK (bin TT .shr 70) g14 (constE (.int .u64 (.ofNat 8))) (put p15 (convK .u8 g15 (put p16 (mv g5 p17 (binK (bin TT .shr 70) g17 (constE (.int .u64 (.ofNat 16))) (put p18 (convK .u8 g18 (put p19 (mv g5 p20 (binK (bin TT .shr 70) g20 (constE (.int .u64 (.ofNat 24))) (put p21 (convK .u8 g21 (put p22 (slowK (buildSliceM [(.int .u8 (.ofNat 0))] 5 1 4 (fun tm => [(0, g13 tm), (1, g16 tm), (2, g19 tm), (3, g22 tm)])) (put p23 (slowK (appendM 5 1 g11 g23) (put p24 (mv g24 p4 (F211ret))))))))))))))))))))))))))))))))))))))
theorem F211_eq (call round : Caller) (K : Nat) : funF TT call round K 211 = F211 call round K := by kernel_rfl
/-! 212 (*revetment/zdev.Device).begin -/
def F212ret : CF := (ret1 g4)
def F212j0 (call round : Caller) (K : Nat) : CF :=
  mv g0 p15 (nilK g15 (put p16 (offK 3 g16 (put p17 (load1K g17 (put p18 (intK gAdd (bin TT .add 3) g18 (constE (.int .i64 (.ofNat 1))) (put p19 (nilK g15 (put p20 (offK 3 g20 (put p21 (storeK 1 g21 g19 (dropS (mv (constE (.int .i64 (.ofNat 0))) p4 (F212ret))))))))))))))))
def F212 (call round : Caller) (K : Nat) : FnT := funC 22 (mv (constE (.int .i64 (.ofNat 0))) p4 (mv g0 p6 (nilK g6 (put p7 (offK 4 g7 (put p8 (load1K g8 (put p9 (mv g9 p5 (condC g5 (mv (constE (.int .i64 (.ofNat 34))) p4 (F212ret)) (mv g0 p11 (mv g1 p12 (callK call 85 (fun tm => [g11 tm, g12 tm]) (put p13 (notK g13 (put p14 (mv g14 p10 (condC g10 (mv (constE (.int .i64 (.ofNat 13))) p4 (F212ret)) ((F212j0 call round K))))))))))))))))))))
theorem F212_eq (call round : Caller) (K : Nat) : funF TT call round K 212 = F212 call round K := by kernel_rfl
/-! 213 (*revetment/zone.Zone[revetment/frame.Sector]).Read -/
def F213ret : CF := (retC TT [.cell 4 103, .tmp 5])
def F213j0 (call round : Caller) (K : Nat) : CF :=
  mv g0 p27 (nilK g27 (put p28 (offK 0 g28 (put p29 (load1K g29 (put p30 (mv g1 p31 (ixSliK 64 g30 g31 (put p32 (loadNK 64 g32 (put p33 (storeK 64 g4 g33 (dropS (mv (constE (.int .i64 (.ofNat 0))) p5 (F213ret)))))))))))))))
def F213j1 (call round : Caller) (K : Nat) : CF :=
  pickK g17 (constE (.bool true)) g24 (put p25 (mv g25 p14 (condC g14 (loadNK 64 g6 (put p26 (storeK 64 g4 g26 (dropS (mv (constE (.int .i64 (.ofNat 31))) p5 (F213ret)))))) ((F213j0 call round K)))))
def F213 (call round : Caller) (K : Nat) : FnT := funC 34 (allocK (List.replicate 64 (.int .u8 (.ofNat 0))) 103 (put p4 (mv (constE (.int .i64 (.ofNat 0))) p5 (allocK (List.replicate 64 (.int .u8 (.ofNat 0))) 103 (put p6 (mv g0 p8 (nilK g8 (put p9 (offK 3 g9 (put p10 (load1K g10 (put p11 (intK gEql (bin TT .eql 3) g11 (constE (.int .i64 (.ofNat 4))) (put p12 (mv g12 p7 (condC g7 (loadNK 64 g6 (put p13 (storeK 64 g4 g13 (dropS (mv (constE (.int .i64 (.ofNat 32))) p5 (F213ret)))))) (mv g1 p15 (intK gLss (bin TT .lss 3) g15 (constE (.int .i64 (.ofNat 0))) (put p16 (mv g16 p17 (guard2 (wantG o17 false) (mv g1 p18 (mv g0 p19 (nilK g19 (put p20 (offK 0 g20 (put p21 (load1K g21 (put p22 (lenK g22 (put p23 (intK gGeq (bin TT .geq 3) g18 g23 (put p24 ((F213j1 call round K)))))))))))))) (put p18 (put p19 (put p20 (put p21 (put p22 (put p23 (put p24 ((F213j1 call round K)) (.tuple [])) (.tuple [])) (.tuple [])) (.tuple [])) (.tuple [])) (.tuple [])) (.tuple [])))))))))))))))))))))))
theorem F213_eq (call round : Caller) (K : Nat) : funF TT call round K 213 = F213 call round K := by kernel_rfl
/-! 220 (*revetment/codec.Reader).take -/
def F220ret : CF := (ret1 g4)
def F220j0 (call round : Caller) (K : Nat) : CF :=
  mv g0 p29 (nilK g29 (put p30 (offK 0 g30 (put p31 (load1K g31 (put p32 (mv g1 p33 (mv g1 p34 (valK (sliV 1 g32 (fun _ => none) (fun tm => some (g33 tm)) (fun tm => some (g34 tm))) (put p35 (mv g35 p5 (mv g0 p36 (mv g0 p37 (nilK g37 (put p38 (offK 0 g38 (put p39 (load1K g39 (put p40 (mv g1 p41 (valK (sliV 1 g40 (fun tm => some (g41 tm)) (fun _ => none) (fun _ => none)) (put p42 (nilK g36 (put p43 (offK 0 g43 (put p44 (storeK 1 g44 g42 (dropS (mv g5 p45 (mv g45 p4 (F220ret)))))))))))))))))))))))))))))))
def F220j1 (call round : Caller) (K : Nat) : CF :=
  pickK g14 (constE (.bool true)) g21 (put p22 (condC g22 (mv g0 p23 (mv g0 p24 (nilK g23 (put p25 (offK 0 g25 (put p26 (storeK 1 g26 (constE .nilslice) (dropS (nilK g24 (put p27 (offK 1 g27 (put p28 (storeK 1 g28 (constE (.bool true)) (dropS (mv (constE .nilslice) p4 (F220ret)))))))))))))))) ((F220j0 call round K))))
def F220j2 (call round : Caller) (K : Nat) : CF :=
  pickK g10 (constE (.bool true)) g12 (put p13 (mv g13 p14 (guard2 (wantG o14 false) (mv g1 p15 (mv g0 p16 (nilK g16 (put p17 (offK 0 g17 (put p18 (load1K g18 (put p19 (lenK g19 (put p20 (intK gGtr (bin TT .gtr 3) g15 g20 (put p21 ((F220j1 call round K)))))))))))))) (put p15 (put p16 (put p17 (put p18 (put p19 (put p20 (put p21 ((F220j1 call round K)) (.tuple [])) (.tuple [])) (.tuple [])) (.tuple [])) (.tuple [])) (.tuple [])) (.tuple [])))))
def F220 (call round : Caller) (K : Nat) : FnT := funC 46 (mv (constE .nilslice) p4 (mv g0 p6 (nilK g6 (put p7 (offK 1 g7 (put p8 (load1K g8 (put p9 (mv g9 p10 (guard2 (wantG o10 false) (mv g1 p11 (intK gLss (bin TT .lss 3) g11 (constE (.int .i64 (.ofNat 0))) (put p12 ((F220j2 call round K))))) (put p11 (put p12 ((F220j2 call round K)) (.tuple [])) (.tuple []))))))))))))
theorem F220_eq (call round : Caller) (K : Nat) : funF TT call round K 220 = F220 call round K := by kernel_rfl
/-! 222 (*revetment/zdev.Device).opened -/
def F222ret : CF := (ret1 g2)
def F222j0 (call round : Caller) (K : Nat) : CF :=
  mv g3 p21 (mv g21 p2 (F222ret))
def F222j2 (call round : Caller) (K : Nat) (ih1_ : CF) : CF :=
  intK gAdd (bin TT .add 3) g11 (constE (.int .i64 (.ofNat 1))) (put p20 (mv g20 p11 (ih1_)))
def F222j3 (call round : Caller) (K : Nat) (ih1_ : CF) : CF :=
  ixSliK 1 g9 g11 (put p13 (load1K g13 (put p14 (mv g14 p5 (mv g5 p15 (callK call 86 (fun tm => [g15 tm]) (put p16 (intK gEql (bin TT .eql 3) g16 (constE (.int .i64 (.ofNat 1))) (put p17 (condC g17 (mv g3 p18 (intK gAdd (bin TT .add 3) g18 (constE (.int .i64 (.ofNat 1))) (put p19 (mv g19 p3 ((F222j2 call round K ih1_)))))) ((F222j2 call round K ih1_))))))))))))
def F222b4 (call round : Caller) (K : Nat) (ih1_ : CF) : CF :=
  intK gLss (bin TT .lss 3) g11 g10 (put p12 (condC g12 ((F222j3 call round K ih1_)) ((F222j0 call round K))))
def F222 (call round : Caller) (K : Nat) : FnT := funC 22 (mv (constE (.int .i64 (.ofNat 0))) p2 (mv (constE (.int .i64 (.ofNat 0))) p3 (mv g0 p6 (nilK g6 (put p7 (offK 0 g7 (put p8 (load1K g8 (put p9 (lenK g9 (put p10 (mv (constE (.int .i64 (.ofNat 0))) p11 (loopC (F222b4 call round K) K)))))))))))))
theorem F222_eq (call round : Caller) (K : Nat) : funF TT call round K 222 = F222 call round K := by kernel_rfl
/-! 223 (*revetment/zone.Zone[revetment/frame.Sector]).Append -/
def F223ret : CF := (ret2 g4 g5)
def F223j0 (call round : Caller) (K : Nat) : CF :=
  mv g0 p43 (nilK g43 (put p44 (offK 0 g44 (put p45 (load1K g45 (put p46 (lenK g46 (put p47 (intK gSub (bin TT .sub 3) g47 (constE (.int .i64 (.ofNat 1))) (put p48 (mv g48 p4 (mv (constE (.int .i64 (.ofNat 0))) p5 (F223ret)))))))))))))
def F223j1 (call round : Caller) (K : Nat) : CF :=
  drawS fun base s => moveK g0 (put p17 (moveK g0 (put p18 (nilK g18 (put p19 (offK 0 g19 (put p20 (dLoad 4 14 base g20 s fun s => load1K g20 (put p21 (dLoad 5 0 base g3 s fun s => loadNK 64 g3 (put p22 (dNew 6 s fun s => slowK (buildSliceM (List.replicate 64 (.int .u8 (.ofNat 0))) 103 64 1 (fun tm => [(0, g22 tm)])) (put p23 (dBig 7 126 s (fun k => slowK (appendM 103 64 g21 g23) (k)) fun s => put p24 (nilK g17 (put p25 (offK 0 g25 (put p26 (dSto 10 1023 g26 s fun s => storeK 1 g26 g24 (dropS (mv g0 p27 (nilK g27 (put p28 (offK 3 g28 (put p29 (storeK 1 g29 (constE (.int .i64 (.ofNat 1))) (dropS (mv g0 p30 (nilK g30 (put p31 (offK 0 g31 (put p32 (load1K g32 (put p33 (lenK g33 (put p34 (mv g0 p35 (nilK g35 (put p36 (offK 1 g36 (put p37 (load1K g37 (put p38 (intK gEql (bin TT .eql 3) g34 g38 (put p39 (condC g39 (mv g0 p40 (nilK g40 (put p41 (offK 3 g41 (put p42 (storeK 1 g42 (constE (.int .i64 (.ofNat 2))) (dropS ((F223j0 call round K))))))))) ((F223j0 call round K))))))))))))))))))))))))))))))))))))))))))))))))
def F223j2 (call round : Caller) (K : Nat) : CF :=
  mv g0 p12 (nilK g12 (put p13 (offK 3 g13 (put p14 (load1K g14 (put p15 (intK gEql (bin TT .eql 3) g15 (constE (.int .i64 (.ofNat 2))) (put p16 (condC g16 (mv (constE (.int .i64 (.ofNat 0))) p4 (mv (constE (.int .i64 (.ofNat 17))) p5 (F223ret))) ((F223j1 call round K)))))))))))
def F223 (call round : Caller) (K : Nat) : FnT := funC 49 (boxK 103 g1 (put p3 (mv (constE (.int .i64 (.ofNat 0))) p4 (mv (constE (.int .i64 (.ofNat 0))) p5 (mv g0 p7 (callK call 237 (fun tm => [g7 tm]) (put p8 (mv g8 p6 (mv g6 p9 (intK gNeq (bin TT .neq 28) g9 (constE (.int .i64 (.ofNat 0))) (put p10 (condC g10 (mv g6 p11 (mv (constE (.int .i64 (.ofNat 0))) p4 (mv g11 p5 (F223ret)))) ((F223j2 call round K))))))))))))))
theorem F223_eq (call round : Caller) (K : Nat) : funF TT call round K 223 = F223 call round K := by kernel_rfl
/-! 224 (*revetment/zone.Zone[revetment/frame.Sector]).Finish -/
def F224ret : CF := (ret1 g2)
def F224j0 (call round : Caller) (K : Nat) : CF :=
  mv g0 p9 (mv g0 p10 (nilK g9 (put p11 (offK 3 g11 (put p12 (storeK 1 g12 (constE (.int .i64 (.ofNat 2))) (dropS (nilK g10 (put p13 (offK 4 g13 (put p14 (storeK 1 g14 (constE (.bool true)) (dropS (mv (constE (.int .i64 (.ofNat 0))) p2 (F224ret)))))))))))))))
def F224 (call round : Caller) (K : Nat) : FnT := funC 15 (mv (constE (.int .i64 (.ofNat 0))) p2 (mv g0 p4 (callK call 237 (fun tm => [g4 tm]) (put p5 (mv g5 p3 (mv g3 p6 (intK gNeq (bin TT .neq 28) g6 (constE (.int .i64 (.ofNat 0))) (put p7 (condC g7 (mv g3 p8 (mv g8 p2 (F224ret))) ((F224j0 call round K)))))))))))
theorem F224_eq (call round : Caller) (K : Nat) : funF TT call round K 224 = F224 call round K := by kernel_rfl
/-! 225 (*revetment/zdev.Device).Spoil -/
def F225ret : CF := (ret1 g8)
def F225j0 (call round : Caller) (K : Nat) : CF :=
  mv g0 p13 (nilK g13 (put p14 (offK 0 g14 (put p15 (load1K g15 (put p16 (mv g1 p17 (ixSliK 1 g16 g17 (put p18 (load1K g18 (put p19 (mv g2 p20 (valK (makeFuncV 239 (fun tm => []) (fun tm => [g7 tm])) (put p21 (callK call 238 (fun tm => [g19 tm, g20 tm, g21 tm]) (put p22 (mv g22 p8 (F225ret))))))))))))))))))
def F225 (call round : Caller) (K : Nat) : FnT := funC 23 (boxK 103 g3 (put p7 (mv (constE (.int .i64 (.ofNat 0))) p8 (mv g0 p9 (mv g1 p10 (callK call 85 (fun tm => [g9 tm, g10 tm]) (put p11 (notK g11 (put p12 (condC g12 (mv (constE (.int .i64 (.ofNat 13))) p8 (F225ret)) ((F225j0 call round K))))))))))))
theorem F225_eq (call round : Caller) (K : Nat) : funF TT call round K 225 = F225 call round K := by kernel_rfl
/-! 226 (revetment/frame.Sector).Xor -/
def F226ret : CF := (retC TT [.cell 4 103])
def F226j0 (call round : Caller) (K : Nat) : CF :=
  loadNK 64 g2 (put p18 (storeK 64 g4 g18 (dropS (F226ret))))
def F226j2 (call round : Caller) (K : Nat) (ih1_ : CF) : CF :=
  intK gAdd (bin TT .add 3) g6 (constE (.int .i64 (.ofNat 1))) (put p17 (mv g17 p6 (ih1_)))
def F226j3 (call round : Caller) (K : Nat) (ih1_ : CF) : CF :=
  mv g6 p8 (mv g8 p5 (drawS fun base s => moveK g5 (put p9 (ixArrK 64 1 g2 g9 (put p10 (dLoad 2 3 base g10 s fun s => load1K g10 (put p11 (moveK g5 (put p12 (ixArrK 64 1 g3 g12 (put p13 (dLoad 5 24 base g13 s fun s => load1K g13 (put p14 (binK (bin TT .xor 5) g11 g14 (put p15 (ixArrK 64 1 g2 g9 (put p16 (dSto 8 255 g16 s fun s => storeK 1 g16 g15 (dropS ((F226j2 call round K ih1_)))))))))))))))))))))
def F226b4 (call round : Caller) (K : Nat) (ih1_ : CF) : CF :=
  intK gLss (bin TT .lss 3) g6 (constE (.int .i64 (.ofNat 64))) (put p7 (condC g7 ((F226j3 call round K ih1_)) ((F226j0 call round K))))
def F226 (call round : Caller) (K : Nat) : FnT := funC 19 (boxK 103 g0 (put p2 (boxK 103 g1 (put p3 (allocK (List.replicate 64 (.int .u8 (.ofNat 0))) 103 (put p4 (mv (constE (.int .i64 (.ofNat 0))) p6 (loopC (F226b4 call round K) K))))))))
theorem F226_eq (call round : Caller) (K : Nat) : funF TT call round K 226 = F226 call round K := by kernel_rfl
/-! 227 (*revetment/zone.Zone[revetment/frame.Sector]).Fail -/
def F227ret : CF := ret0
def F227j0 (call round : Caller) (K : Nat) : CF :=
  pickK g6 (constE (.bool true)) g15 (put p16 (condC g16 (mv g0 p17 (mv g1 p18 (nilK g17 (put p19 (offK 3 g19 (put p20 (storeK 1 g20 g18 (dropS (F227ret))))))))) (F227ret)))
def F227j1 (call round : Caller) (K : Nat) : CF :=
  guard2 (wantG o6 false) (pickK g9 g14 (constE (.bool false)) (put p15 ((F227j0 call round K)))) (put p15 ((F227j0 call round K)) (.tuple []))
def F227j2 (call round : Caller) (K : Nat) : CF :=
  guard2 (wantG o9 true) (mv g0 p10 (nilK g10 (put p11 (offK 3 g11 (put p12 (load1K g12 (put p13 (intK gNeq (bin TT .neq 3) g13 (constE (.int .i64 (.ofNat 4))) (put p14 ((F227j1 call round K))))))))))) (put p10 (put p11 (put p12 (put p13 (put p14 ((F227j1 call round K)) (.tuple [])) (.tuple [])) (.tuple [])) (.tuple [])) (.tuple []))
def F227 (call round : Caller) (K : Nat) : FnT := funC 21 (mv g1 p4 (intK gEql (bin TT .eql 3) g4 (constE (.int .i64 (.ofNat 4))) (put p5 (mv g5 p6 (guard2 (wantG o6 false) (mv g1 p7 (intK gEql (bin TT .eql 3) g7 (constE (.int .i64 (.ofNat 3))) (put p8 (mv g8 p9 ((F227j2 call round K)))))) (put p7 (put p8 (put p9 ((F227j2 call round K)) (.tuple [])) (.tuple [])) (.tuple [])))))))
theorem F227_eq (call round : Caller) (K : Nat) : funF TT call round K 227 = F227 call round K := by kernel_rfl
/-! 237 (*revetment/zone.Zone[revetment/frame.Sector]).failed -/
def F237ret : CF := (ret1 g2)
def F237j0 (call round : Caller) (K : Nat) : CF :=
  mv (constE (.int .i64 (.ofNat 0))) p2 (F237ret)
def F237 (call round : Caller) (K : Nat) : FnT := funC 11 (mv (constE (.int .i64 (.ofNat 0))) p2 (mv g0 p3 (nilK g3 (put p4 (offK 3 g4 (put p5 (load1K g5 (put p6 (intK gEql (bin TT .eql 3) g6 (constE (.int .i64 (.ofNat 4))) (put p8 (mv g8 p7 (condC g7 (mv (constE (.int .i64 (.ofNat 32))) p2 (F237ret)) (intK gEql (bin TT .eql 3) g6 (constE (.int .i64 (.ofNat 3))) (put p10 (mv g10 p9 (condC g9 (mv (constE (.int .i64 (.ofNat 30))) p2 (F237ret)) ((F237j0 call round K))))))))))))))))))
theorem F237_eq (call round : Caller) (K : Nat) : funF TT call round K 237 = F237 call round K := by kernel_rfl
/-! 238 (*revetment/zone.Zone[revetment/frame.Sector]).Change -/
def F238ret : CF := (ret1 g6)
def F238j0 (call round : Caller) (K : Nat) : CF :=
  drawS fun base s => moveK g0 (put p18 (nilK g18 (put p19 (offK 0 g19 (put p20 (dLoad 3 7 base g20 s fun s => load1K g20 (put p21 (moveK g1 (put p22 (moveK g2 (put p23 (moveK g0 (put p24 (nilK g24 (put p25 (offK 0 g25 (put p26 (dLoad 9 448 base g26 s fun s => load1K g26 (put p27 (moveK g1 (put p28 (ixSliK 64 g27 g28 (put p29 (dLoad 12 4032 base g29 s fun s => loadNK 64 g29 (put p30 (dBig 13 8160 s (fun k => callVK call round g23 (fun tm => [g30 tm]) (k)) fun s => put p31 (ixSliK 64 g21 g22 (put p32 (dSto 15 32767 g32 s fun s => storeK 64 g32 g31 (dropS (mv (constE (.int .i64 (.ofNat 0))) p6 (F238ret))))))))))))))))))))))))))))))))
def F238j1 (call round : Caller) (K : Nat) : CF :=
  pickK g9 (constE (.bool true)) g16 (put p17 (condC g17 (mv (constE (.int .i64 (.ofNat 31))) p6 (F238ret)) ((F238j0 call round K))))
def F238 (call round : Caller) (K : Nat) : FnT := funC 33 (mv (constE (.int .i64 (.ofNat 0))) p6 (mv g1 p7 (intK gLss (bin TT .lss 3) g7 (constE (.int .i64 (.ofNat 0))) (put p8 (mv g8 p9 (guard2 (wantG o9 false) (mv g1 p10 (mv g0 p11 (nilK g11 (put p12 (offK 0 g12 (put p13 (load1K g13 (put p14 (lenK g14 (put p15 (intK gGeq (bin TT .geq 3) g10 g15 (put p16 ((F238j1 call round K)))))))))))))) (put p10 (put p11 (put p12 (put p13 (put p14 (put p15 (put p16 ((F238j1 call round K)) (.tuple [])) (.tuple [])) (.tuple [])) (.tuple [])) (.tuple [])) (.tuple [])) (.tuple []))))))))
theorem F238_eq (call round : Caller) (K : Nat) : funF TT call round K 238 = F238 call round K := by kernel_rfl
/-! 239 (*revetment/zdev.Device).Spoil$1 -/
def F239ret : CF := (retC TT [.cell 3 103])
def F239 (call round : Caller) (K : Nat) : FnT := funC 7 (boxK 103 g0 (put p2 (allocK (List.replicate 64 (.int .u8 (.ofNat 0))) 103 (put p3 (loadNK 64 g2 (put p4 (loadNK 64 g1 (put p5 (callK call 226 (fun tm => [g4 tm, g5 tm]) (put p6 (storeK 64 g3 g6 (dropS (F239ret)))))))))))))
theorem F239_eq (call round : Caller) (K : Nat) : funF TT call round K 239 = F239 call round K := by kernel_rfl
end
end Go.Ev
