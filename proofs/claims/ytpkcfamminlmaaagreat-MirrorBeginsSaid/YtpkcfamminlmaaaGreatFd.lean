/- Printed by GenD.lean. -/
import Derived.Test.YtpkcfamminlmaaaGreatFa
set_option linter.unusedVariables false
set_option linter.unusedSimpArgs false
set_option linter.unusedSectionVars false
namespace Go.Ev
open Go.Proofs
set_option maxRecDepth 100000
noncomputable section
/-! 112 (revetment/geom.Geom).Parts -/
def F112ret : CF := (ret1 g2)
def F112 (call round : Caller) (K : Nat) : FnT := funC 9 (boxK 23 g0 (put p1 (mv (constE (.int .i64 (.ofNat 0))) p2 (offK 3 g1 (put p3 (load1K g3 (put p4 (intK gAdd (bin TT .add 3) g4 (constE (.int .i64 (.ofNat 2))) (put p5 (intK gSub (bin TT .sub 3) g5 (constE (.int .i64 (.ofNat 1))) (put p6 (binK (bin TT .quo 3) g6 (constE (.int .i64 (.ofNat 2))) (put p7 (intK gAdd (bin TT .add 3) (constE (.int .i64 (.ofNat 1))) g7 (put p8 (mv g8 p2 (F112ret)))))))))))))))))
theorem F112_eq (call round : Caller) (K : Nat) : funF TT call round K 112 = F112 call round K := by kernel_rfl
/-! 113 (revetment/geom.Geom).Segments -/
def F113ret : CF := (ret1 g2)
def F113 (call round : Caller) (K : Nat) : FnT := funC 40 (boxK 23 g0 (put p1 (mv (constE (.int .i64 (.ofNat 0))) p2 (drawS fun base s => offK 1 g1 (put p6 (dLoad 1 1 base g6 s fun s => load1K g6 (put p7 (offK 4 g1 (put p8 (dLoad 3 4 base g8 s fun s => load1K g8 (put p9 (intK gSub (bin TT .sub 3) g7 g9 (put p10 (intK gSub (bin TT .sub 3) g10 (constE (.int .i64 (.ofNat 2))) (put p11 (dLoad 6 0 base g1 s fun s => loadNK 6 g1 (put p12 (dBig 7 64 s (fun k => callK call 159 (fun tm => [g12 tm]) (k)) fun s => put p13 (moveK g11 (put p3 (moveK g13 (put p4 (offK 0 g1 (put p14 (load1K g14 (put p15 (intK gSub (bin TT .sub 3) g15 (constE (.int .i64 (.ofNat 1))) (put p16 (mv g3 p17 (intK gMul (bin TT .mul 3) g16 g17 (put p18 (mv g4 p19 (intK gSub (bin TT .sub 3) g18 g19 (put p20 (intK gAdd (bin TT .add 3) g20 (constE (.int .i64 (.ofNat 1))) (put p21 (offK 0 g1 (put p22 (load1K g22 (put p23 (mv g3 p24 (intK gMul (bin TT .mul 3) g23 g24 (put p25 (mv g4 p26 (intK gMul (bin TT .mul 3) (constE (.int .i64 (.ofNat 2))) g26 (put p27 (intK gSub (bin TT .sub 3) g25 g27 (put p28 (intK gAdd (bin TT .add 3) g28 (constE (.int .i64 (.ofNat 1))) (put p29 (slowK (builtinM TT .min #[3, 3] (fun tm => [g21 tm, g29 tm])) (put p30 (mv g30 p5 (mv g5 p31 (binK (bin TT .shr 3) g31 (constE (.int .u64 (.ofNat 1))) (put p32 (intK gSub (bin TT .sub 3) g32 (constE (.int .i64 (.ofNat 1))) (put p33 (offK 0 g1 (put p34 (load1K g34 (put p35 (offK 4 g1 (put p36 (load1K g36 (put p37 (intK gMul (bin TT .mul 3) g35 g37 (put p38 (intK gSub (bin TT .sub 3) g33 g38 (put p39 (mv g39 p2 (F113ret))))))))))))))))))))))))))))))))))))))))))))))))))))))))))))))))))))))))
theorem F113_eq (call round : Caller) (K : Nat) : funF TT call round K 113 = F113 call round K := by kernel_rfl
/-! 118 (*revetment/plan.Drive).due -/
def F118ret : CF := ret0
def F118j1 (call round : Caller) (K : Nat) (ih0_ : CF) : CF :=
  mv g0 p32 (nilK g32 (put p33 (offK 1 g33 (put p34 (load1K g34 (put p35 (ixSliK 68 g35 (constE (.int .i64 (.ofNat 0))) (put p36 (loadNK 68 g36 (put p37 (allocK (List.replicate 4 (.int .i64 (.ofNat 0)) ++ List.replicate 64 (.int .u8 (.ofNat 0))) 105 (put p2 (storeK 68 g2 g37 (dropS (mv g0 p38 (mv g0 p39 (nilK g39 (put p40 (offK 1 g40 (put p41 (load1K g41 (put p42 (valK (sliV 68 g42 (fun tm => some ((constE (.int .i64 (.ofNat 1))) tm)) (fun _ => none) (fun _ => none)) (put p43 (callK call 168 (fun tm => [g43 tm]) (put p44 (nilK g38 (put p45 (offK 1 g45 (put p46 (storeK 1 g46 g44 (dropS (mv g0 p47 (loadNK 68 g2 (put p48 (callK call 169 (fun tm => [g47 tm, g48 tm]) (put p49 (ih0_))))))))))))))))))))))))))))))))))))))
def F118j2 (call round : Caller) (K : Nat) (ih0_ : CF) (base : Nat) (s : DX) : CF :=
  pickK g17 g30 (constE (.bool false)) (put p31 (condC g31 ((F118j1 call round K ih0_)) (F118ret)))
def F118j3 (call round : Caller) (K : Nat) (ih0_ : CF) (base : Nat) (s : DX) : CF :=
  pickK g9 g15 (constE (.bool false)) (put p16 (moveK g16 (put p17 (guard2 (wantG o17 true) (moveK g0 (put p18 (nilK g18 (put p19 (offK 1 g19 (put p20 (dLoad 18 262143 base g20 s fun s => load1K g20 (put p21 (ixSliK 68 g21 (constE (.int .i64 (.ofNat 0))) (put p22 (offK 0 g22 (put p23 (dLoad 21 2097151 base g23 s fun s => load1K g23 (put p24 (moveK g0 (put p25 (nilK g25 (put p26 (offK 0 g26 (put p27 (dLoad 25 29392895 base g27 s fun s => load1K g27 (put p28 (dBig 26 62947327 s (fun k => callK call 167 (fun tm => [g28 tm]) (k)) fun s => put p29 (intK gLeq (bin TT .leq 3) g24 g29 (put p30 ((F118j2 call round K ih0_ base s))))))))))))))))))))))))))) (put p18 (put p19 (put p20 (put p21 (put p22 (put p23 (put p24 (put p25 (put p26 (put p27 (put p28 (put p29 (put p30 ((F118j2 call round K ih0_ base s)) (.tuple [])) (.tuple [])) (.tuple [])) (.tuple [])) (.tuple [])) (.tuple [])) (.tuple [])) (.tuple [])) (.tuple [])) (.tuple [])) (.tuple [])) (.tuple [])) (.tuple []))))))
def F118b4 (call round : Caller) (K : Nat) (ih0_ : CF) : CF :=
  drawS fun base s => moveK g0 (put p3 (nilK g3 (put p4 (offK 0 g4 (put p5 (dLoad 3 7 base g5 s fun s => load1K g5 (put p6 (dBig 4 15 s (fun k => callK call 166 (fun tm => [g6 tm]) (k)) fun s => put p7 (notK g7 (put p8 (moveK g8 (put p9 (guard2 (wantG o9 true) (moveK g0 (put p10 (nilK g10 (put p11 (offK 1 g11 (put p12 (dLoad 10 1023 base g12 s fun s => load1K g12 (put p13 (dPur (fun k => lenK g13 (k)) (put p14 (intK gGtr (bin TT .gtr 3) g14 (constE (.int .i64 (.ofNat 0))) (put p15 ((F118j3 call round K ih0_ base s)))))))))))))) (put p10 (put p11 (put p12 (put p13 (put p14 (put p15 ((F118j3 call round K ih0_ base s)) (.tuple [])) (.tuple [])) (.tuple [])) (.tuple [])) (.tuple [])) (.tuple [])))))))))))))))
def F118 (call round : Caller) (K : Nat) : FnT := funC 50 (loopC (F118b4 call round K) K)
theorem F118_eq (call round : Caller) (K : Nat) : funF TT call round K 118 = F118 call round K := by kernel_rfl
/-! 119 (*revetment/zdev.Device).Flush -/
def F119ret : CF := (ret1 g2)
def F119j0 (call round : Caller) (K : Nat) : CF :=
  mv (constE (.int .i64 (.ofNat 0))) p2 (F119ret)
def F119j2 (call round : Caller) (K : Nat) (ih1_ : CF) : CF :=
  intK gAdd (bin TT .add 3) g21 (constE (.int .i64 (.ofNat 1))) (put p27 (mv g27 p21 (ih1_)))
def F119j3 (call round : Caller) (K : Nat) (ih1_ : CF) : CF :=
  ixSliK 1 g19 g21 (put p23 (load1K g23 (put p24 (mv g24 p4 (mv g4 p25 (callK call 170 (fun tm => [g25 tm]) (put p26 ((F119j2 call round K ih1_)))))))))
def F119b4 (call round : Caller) (K : Nat) (ih1_ : CF) : CF :=
  intK gLss (bin TT .lss 3) g21 g20 (put p22 (condC g22 ((F119j3 call round K ih1_)) ((F119j0 call round K))))
def F119j5 (call round : Caller) (K : Nat) : CF :=
  mv g0 p9 (nilK g9 (put p10 (offK 3 g10 (put p11 (load1K g11 (put p12 (intK gAdd (bin TT .add 3) g12 (constE (.int .i64 (.ofNat 1))) (put p13 (nilK g9 (put p14 (offK 3 g14 (put p15 (storeK 1 g15 g13 (dropS (mv g0 p16 (nilK g16 (put p17 (offK 0 g17 (put p18 (load1K g18 (put p19 (lenK g19 (put p20 (mv (constE (.int .i64 (.ofNat 0))) p21 (loopC (F119b4 call round K) K)))))))))))))))))))))))))
def F119 (call round : Caller) (K : Nat) : FnT := funC 28 (mv (constE (.int .i64 (.ofNat 0))) p2 (mv g0 p5 (nilK g5 (put p6 (offK 4 g6 (put p7 (load1K g7 (put p8 (condC g8 (mv (constE (.int .i64 (.ofNat 34))) p2 (F119ret)) ((F119j5 call round K)))))))))))
theorem F119_eq (call round : Caller) (K : Nat) : funF TT call round K 119 = F119 call round K := by kernel_rfl
/-! 121 (*revetment/queue.Queue[int]).Keep -/
def F121ret : CF := (ret1 g4)
def F121j0 (call round : Caller) (K : Nat) : CF :=
  mv g5 p29 (mv g29 p4 (F121ret))
def F121j2 (call round : Caller) (K : Nat) (ih1_ : CF) : CF :=
  intK gAdd (bin TT .add 3) g10 (constE (.int .i64 (.ofNat 1))) (put p28 (mv g28 p10 (ih1_)))
def F121j3 (call round : Caller) (K : Nat) (ih1_ : CF) : CF :=
  mv g0 p25 (mv g6 p26 (callK call 61 (fun tm => [g25 tm, g26 tm]) (put p27 ((F121j2 call round K ih1_)))))
def F121j4 (call round : Caller) (K : Nat) (ih1_ : CF) : CF :=
  mv g1 p19 (mv g6 p20 (callVK call round g19 (fun tm => [g20 tm]) (put p21 (notK g21 (put p22 (condC g22 (mv g5 p23 (intK gAdd (bin TT .add 3) g23 (constE (.int .i64 (.ofNat 1))) (put p24 (mv g24 p5 ((F121j2 call round K ih1_)))))) ((F121j3 call round K ih1_))))))))
def F121j5 (call round : Caller) (K : Nat) (ih1_ : CF) : CF :=
  mv g0 p13 (callK call 171 (fun tm => [g13 tm]) (put p14 (mv g14 p12 (extrK 0 g12 (put p15 (extrK 1 g12 (put p16 (mv g15 p6 (mv g16 p7 (mv g7 p17 (intK gNeq (bin TT .neq 28) g17 (constE (.int .i64 (.ofNat 0))) (put p18 (condC g18 ((F121j0 call round K)) ((F121j4 call round K ih1_)))))))))))))))
def F121b6 (call round : Caller) (K : Nat) (ih1_ : CF) : CF :=
  intK gLss (bin TT .lss 3) g10 g9 (put p11 (condC g11 ((F121j5 call round K ih1_)) ((F121j0 call round K))))
def F121 (call round : Caller) (K : Nat) : FnT := funC 30 (mv (constE (.int .i64 (.ofNat 0))) p4 (mv (constE (.int .i64 (.ofNat 0))) p5 (mv g0 p8 (callK call 71 (fun tm => [g8 tm]) (put p9 (mv (constE (.int .i64 (.ofNat 0))) p10 (loopC (F121b6 call round K) K)))))))
theorem F121_eq (call round : Caller) (K : Nat) : funF TT call round K 121 = F121 call round K := by kernel_rfl
/-! 122 (*revetment/pool.Pool).Drop$1 -/
def F122ret : CF := (ret1 g3)
def F122 (call round : Caller) (K : Nat) : FnT := funC 7 (mv (constE (.bool false)) p3 (mv g0 p4 (load1K g1 (put p5 (intK gNeq (bin TT .neq 3) g4 g5 (put p6 (mv g6 p3 (F122ret))))))))
theorem F122_eq (call round : Caller) (K : Nat) : funF TT call round K 122 = F122 call round K := by kernel_rfl
/-! 123 (*revetment/mirror.Mirror).leave -/
def F123ret : CF := (ret1 g6)
def F123j0 (call round : Caller) (K : Nat) : CF :=
  mv g0 p33 (nilK g33 (put p34 (offK 0 g34 (put p35 (load1K g35 (put p36 (mv g1 p37 (callK call 165 (fun tm => [g36 tm, g37 tm]) (put p38 (mv g38 p6 (F123ret)))))))))))
def F123j1 (call round : Caller) (K : Nat) : CF :=
  pickK g15 (constE (.bool true)) g22 (put p23 (mv g23 p7 (condC g7 (mv (constE (.int .i64 (.ofNat 0))) p6 (F123ret)) (mv g2 p25 (intK gEql (bin TT .eql 3) g25 (constE (.int .i64 (.ofNat 0))) (put p26 (mv g26 p24 (condC g24 (mv g0 p27 (nilK g27 (put p28 (offK 263 g28 (put p29 (load1K g29 (put p30 (mv g1 p31 (callK call 15 (fun tm => [g30 tm, g31 tm]) (put p32 (mv g32 p6 (F123ret)))))))))))) ((F123j0 call round K))))))))))
def F123j2 (call round : Caller) (K : Nat) : CF :=
  pickK g10 (constE (.bool true)) g13 (put p14 (mv g14 p15 (guard2 (wantG o15 false) (mv g2 p16 (mv g0 p17 (nilK g17 (put p18 (offK 1 g18 (put p19 (offK 2 g19 (put p20 (load1K g20 (put p21 (intK gEql (bin TT .eql 3) g16 g21 (put p22 ((F123j1 call round K)))))))))))))) (put p16 (put p17 (put p18 (put p19 (put p20 (put p21 (put p22 ((F123j1 call round K)) (.tuple [])) (.tuple [])) (.tuple [])) (.tuple [])) (.tuple [])) (.tuple [])) (.tuple [])))))
def F123 (call round : Caller) (K : Nat) : FnT := funC 39 (mv (constE (.int .i64 (.ofNat 0))) p6 (mv g1 p8 (intK gEql (bin TT .eql 3) g8 (constE (.int .i64 (.negSucc 0))) (put p9 (mv g9 p10 (guard2 (wantG o10 false) (mv g0 p11 (mv g1 p12 (callK call 21 (fun tm => [g11 tm, g12 tm]) (put p13 ((F123j2 call round K)))))) (put p11 (put p12 (put p13 ((F123j2 call round K)) (.tuple [])) (.tuple [])) (.tuple []))))))))
theorem F123_eq (call round : Caller) (K : Nat) : funF TT call round K 123 = F123 call round K := by kernel_rfl
/-! 124 revetment/zdev.within -/
def F124ret : CF := (ret1 g4)
def F124j0 (call round : Caller) (K : Nat) : CF :=
  pickK g7 g10 (constE (.bool false)) (put p11 (mv g11 p4 (F124ret)))
def F124 (call round : Caller) (K : Nat) : FnT := funC 12 (mv (constE (.bool false)) p4 (mv g0 p5 (intK gGeq (bin TT .geq 3) g5 (constE (.int .i64 (.ofNat 1))) (put p6 (mv g6 p7 (guard2 (wantG o7 true) (mv g0 p8 (mv g1 p9 (intK gLeq (bin TT .leq 3) g8 g9 (put p10 ((F124j0 call round K)))))) (put p8 (put p9 (put p10 ((F124j0 call round K)) (.tuple [])) (.tuple [])) (.tuple []))))))))
theorem F124_eq (call round : Caller) (K : Nat) : funF TT call round K 124 = F124 call round K := by kernel_rfl
/-! 125 revetment/zone.New[revetment/frame.Sector] -/
def F125ret : CF := (ret2 g2 g3)
def F125j0 (call round : Caller) (K : Nat) : CF :=
  mv g0 p10 (valK (buildV (nthPR [(0, 1), (1, 1), (2, 1), (3, 1), (4, 1)]) [.nilslice, (.int .i64 (.ofNat 0)), (.int .i64 (.ofNat 0)), (.int .i64 (.ofNat 0)), (.bool false)] (fun tm => [(1, g10 tm)])) (put p11 (boxK 240 g11 (put p12 (mv g12 p2 (mv (constE (.int .i64 (.ofNat 0))) p3 (F125ret)))))))
def F125j1 (call round : Caller) (K : Nat) : CF :=
  pickK g6 (constE (.bool true)) g8 (put p9 (condC g9 (mv (constE .nilptr) p2 (mv (constE (.int .i64 (.ofNat 13))) p3 (F125ret))) ((F125j0 call round K))))
def F125 (call round : Caller) (K : Nat) : FnT := funC 13 (mv (constE .nilptr) p2 (mv (constE (.int .i64 (.ofNat 0))) p3 (mv g0 p4 (intK gLss (bin TT .lss 3) g4 (constE (.int .i64 (.ofNat 1))) (put p5 (mv g5 p6 (guard2 (wantG o6 false) (mv g0 p7 (intK gGtr (bin TT .gtr 3) g7 (constE (.int .i64 (.ofNat 64))) (put p8 ((F125j1 call round K))))) (put p7 (put p8 ((F125j1 call round K)) (.tuple [])) (.tuple [])))))))))
theorem F125_eq (call round : Caller) (K : Nat) : funF TT call round K 125 = F125 call round K := by kernel_rfl
/-! 126 revetment/queue.New[int] -/
def F126ret : CF := (ret2 g2 g3)
def F126j0 (call round : Caller) (K : Nat) : CF :=
  mv g0 p10 (slowK (makeChanM g10) (put p11 (valK (buildV (nthPR [(0, 1)]) [.nilchan] (fun tm => [(0, g11 tm)])) (put p12 (boxK 218 g12 (put p13 (mv g13 p2 (mv (constE (.int .i64 (.ofNat 0))) p3 (F126ret)))))))))
def F126j1 (call round : Caller) (K : Nat) : CF :=
  pickK g6 (constE (.bool true)) g8 (put p9 (condC g9 (mv (constE .nilptr) p2 (mv (constE (.int .i64 (.ofNat 13))) p3 (F126ret))) ((F126j0 call round K))))
def F126 (call round : Caller) (K : Nat) : FnT := funC 14 (mv (constE .nilptr) p2 (mv (constE (.int .i64 (.ofNat 0))) p3 (mv g0 p4 (intK gLss (bin TT .lss 3) g4 (constE (.int .i64 (.ofNat 1))) (put p5 (mv g5 p6 (guard2 (wantG o6 false) (mv g0 p7 (intK gGtr (bin TT .gtr 3) g7 (constE (.int .i64 (.ofNat 4096))) (put p8 ((F126j1 call round K))))) (put p7 (put p8 ((F126j1 call round K)) (.tuple [])) (.tuple [])))))))))
theorem F126_eq (call round : Caller) (K : Nat) : funF TT call round K 126 = F126 call round K := by kernel_rfl
/-! 127 revetment/revetmentref05.half -/
def F127ret : CF := (ret1 g2)
def F127j0 (call round : Caller) (K : Nat) : CF :=
  mv g0 p9 (binK (bin TT .quo 3) g9 (constE (.int .i64 (.ofNat 2))) (put p10 (mv g10 p2 (F127ret))))
def F127 (call round : Caller) (K : Nat) : FnT := funC 11 (mv (constE (.int .i64 (.ofNat 0))) p2 (mv g0 p3 (intK gLss (bin TT .lss 3) g3 (constE (.int .i64 (.ofNat 0))) (put p4 (condC g4 (mv g0 p5 (intK gSub (bin TT .sub 3) (constE (.int .i64 (.ofNat 1))) g5 (put p6 (binK (bin TT .quo 3) g6 (constE (.int .i64 (.ofNat 2))) (put p7 (valK (negV g7) (put p8 (mv g8 p2 (F127ret))))))))) ((F127j0 call round K)))))))
theorem F127_eq (call round : Caller) (K : Nat) : funF TT call round K 127 = F127 call round K := by kernel_rfl
/-! 128 (revetment/entry.Entry).Body -/
def F128ret : CF := (retC TT [.cell 2 118, .tmp 3])
def F128j0 (call round : Caller) (K : Nat) : CF :=
  allocK [.nilslice, (.bool false)] 278 (put p5 (offK 1 g1 (put p12 (load1K g12 (put p13 (callK call 173 (fun tm => [g5 tm, (constE (.int .i64 (.ofNat 6))) tm, g13 tm]) (put p14 (offK 2 g1 (put p15 (load1K g15 (put p16 (callK call 173 (fun tm => [g5 tm, (constE (.int .i64 (.ofNat 1))) tm, g16 tm]) (put p17 (offK 3 g1 (put p18 (load1K g18 (put p19 (callK call 173 (fun tm => [g5 tm, (constE (.int .i64 (.ofNat 1))) tm, g19 tm]) (put p20 (offK 4 g1 (put p21 (load1K g21 (put p22 (callK call 173 (fun tm => [g5 tm, (constE (.int .i64 (.ofNat 2))) tm, g22 tm]) (put p23 (offK 5 g1 (put p24 (load1K g24 (put p25 (callK call 173 (fun tm => [g5 tm, (constE (.int .i64 (.ofNat 2))) tm, g25 tm]) (put p26 (offK 6 g1 (put p27 (valK (sliArrV 32 1 g27 (fun _ => none) (fun _ => none) (fun _ => none)) (put p28 (callK call 174 (fun tm => [g5 tm, g28 tm]) (put p29 (callK call 175 (fun tm => [g5 tm]) (put p31 (mv g31 p30 (extrK 0 g30 (put p32 (extrK 1 g30 (put p33 (mv g32 p6 (mv g33 p7 (valK (sliArrV 44 1 g4 (fun _ => none) (fun _ => none) (fun _ => none)) (put p34 (mv g6 p35 (slowK (builtinM TT .copy #[174, 174] (fun tm => [g34 tm, g35 tm])) (put p36 (loadNK 44 g4 (put p37 (mv g7 p38 (storeK 44 g2 g37 (dropS (mv g38 p3 (F128ret))))))))))))))))))))))))))))))))))))))))))))))))))))))))))
def F128 (call round : Caller) (K : Nat) : FnT := funC 39 (boxK 89 g0 (put p1 (allocK (List.replicate 44 (.int .u8 (.ofNat 0))) 118 (put p2 (mv (constE (.int .i64 (.ofNat 0))) p3 (allocK (List.replicate 44 (.int .u8 (.ofNat 0))) 118 (put p4 (loadNK 38 g1 (put p8 (callK call 172 (fun tm => [g8 tm]) (put p9 (notK g9 (put p10 (condC g10 (loadNK 44 g4 (put p11 (storeK 44 g2 g11 (dropS (mv (constE (.int .i64 (.ofNat 10))) p3 (F128ret)))))) ((F128j0 call round K))))))))))))))))
theorem F128_eq (call round : Caller) (K : Nat) : funF TT call round K 128 = F128 call round K := by kernel_rfl
/-! 129 (revetment/frame.Frame).Right -/
def F129ret : CF := (ret1 g2)
def F129j0 (call round : Caller) (K : Nat) : CF :=
  pickK g21 g24 (constE (.bool false)) (put p25 (mv g25 p2 (F129ret)))
def F129j1 (call round : Caller) (K : Nat) : CF :=
  pickK g16 g19 (constE (.bool false)) (put p20 (mv g20 p21 (guard2 (wantG o21 true) (offK 4 g1 (put p22 (load1K g22 (put p23 (callK call 176 (fun tm => [g23 tm, (constE (.int .i64 (.ofNat 0))) tm, (constE (.int .i64 (.ofNat 281474976710655))) tm]) (put p24 ((F129j0 call round K)))))))) (put p22 (put p23 (put p24 ((F129j0 call round K)) (.tuple [])) (.tuple [])) (.tuple [])))))
def F129j2 (call round : Caller) (K : Nat) : CF :=
  pickK g11 g14 (constE (.bool false)) (put p15 (mv g15 p16 (guard2 (wantG o16 true) (offK 3 g1 (put p17 (load1K g17 (put p18 (callK call 176 (fun tm => [g18 tm, (constE (.int .i64 (.ofNat 1))) tm, (constE (.int .i64 (.ofNat 4294967295))) tm]) (put p19 ((F129j1 call round K)))))))) (put p17 (put p18 (put p19 ((F129j1 call round K)) (.tuple [])) (.tuple [])) (.tuple [])))))
def F129j3 (call round : Caller) (K : Nat) : CF :=
  pickK g6 g9 (constE (.bool false)) (put p10 (mv g10 p11 (guard2 (wantG o11 true) (offK 2 g1 (put p12 (load1K g12 (put p13 (callK call 176 (fun tm => [g13 tm, (constE (.int .i64 (.ofNat 0))) tm, (constE (.int .i64 (.ofNat 65535))) tm]) (put p14 ((F129j2 call round K)))))))) (put p12 (put p13 (put p14 ((F129j2 call round K)) (.tuple [])) (.tuple [])) (.tuple [])))))
def F129 (call round : Caller) (K : Nat) : FnT := funC 26 (boxK 120 g0 (put p1 (mv (constE (.bool false)) p2 (offK 0 g1 (put p3 (load1K g3 (put p4 (callK call 176 (fun tm => [g4 tm, (constE (.int .i64 (.ofNat 1))) tm, (constE (.int .i64 (.ofNat 5))) tm]) (put p5 (mv g5 p6 (guard2 (wantG o6 true) (offK 1 g1 (put p7 (load1K g7 (put p8 (callK call 176 (fun tm => [g8 tm, (constE (.int .i64 (.ofNat 0))) tm, (constE (.int .i64 (.ofNat 65535))) tm]) (put p9 ((F129j3 call round K)))))))) (put p7 (put p8 (put p9 ((F129j3 call round K)) (.tuple [])) (.tuple [])) (.tuple [])))))))))))))
theorem F129_eq (call round : Caller) (K : Nat) : funF TT call round K 129 = F129 call round K := by kernel_rfl
/-! 130 (*revetment/pool.Pool).Pair -/
def F130ret : CF := (retC TT [.tmp 2, .tmp 3, .tmp 4])
def F130j0 (call round : Caller) (K : Nat) : CF :=
  mv g7 p34 (mv g9 p35 (mv g10 p36 (mv g34 p2 (mv g35 p3 (mv g36 p4 (F130ret))))))
def F130j1 (call round : Caller) (K : Nat) : CF :=
  mv g0 p14 (callK call 78 (fun tm => [g14 tm, (constE (.int .i64 (.negSucc 0))) tm]) (put p15 (mv g15 p5 (mv g0 p16 (mv g5 p17 (callK call 78 (fun tm => [g16 tm, g17 tm]) (put p18 (mv g18 p6 (mv g0 p20 (mv g5 p21 (callK call 161 (fun tm => [g20 tm, g21 tm]) (put p22 (mv g22 p19 (extrK 0 g19 (put p23 (extrK 1 g19 (put p24 (mv g23 p7 (mv g24 p8 (mv g0 p26 (mv g6 p27 (callK call 161 (fun tm => [g26 tm, g27 tm]) (put p28 (mv g28 p25 (extrK 0 g25 (put p29 (extrK 1 g25 (put p30 (mv g29 p9 (mv g30 p10 (mv g8 p31 (intK gNeq (bin TT .neq 28) g31 (constE (.int .i64 (.ofNat 0))) (put p32 (condC g32 (mv g8 p33 (mv (constE (.int .i64 (.ofNat 0))) p2 (mv (constE (.int .i64 (.ofNat 0))) p3 (mv g33 p4 (F130ret))))) ((F130j0 call round K))))))))))))))))))))))))))))))))))))
def F130 (call round : Caller) (K : Nat) : FnT := funC 37 (mv (constE (.int .i64 (.ofNat 0))) p2 (mv (constE (.int .i64 (.ofNat 0))) p3 (mv (constE (.int .i64 (.ofNat 0))) p4 (mv g0 p11 (callK call 29 (fun tm => [g11 tm]) (put p12 (intK gEql (bin TT .eql 3) g12 (constE (.int .i64 (.ofNat 0))) (put p13 (condC g13 (mv (constE (.int .i64 (.ofNat 0))) p2 (mv (constE (.int .i64 (.ofNat 0))) p3 (mv (constE (.int .i64 (.ofNat 15))) p4 (F130ret)))) ((F130j1 call round K)))))))))))
theorem F130_eq (call round : Caller) (K : Nat) : funF TT call round K 130 = F130 call round K := by kernel_rfl
/-! 131 (*revetment/mirror.Mirror).put -/
def F131ret : CF := (ret1 g12)
def F131j0 (call round : Caller) (K : Nat) : CF :=
  mv g14 p66 (mv g66 p12 (F131ret))
def F131j1 (call round : Caller) (K : Nat) : CF :=
  pickK g58 g64 (constE (.bool false)) (put p65 (condC g65 (mv (constE (.int .i64 (.ofNat 30))) p12 (F131ret)) ((F131j0 call round K))))
def F131j2 (call round : Caller) (K : Nat) : CF :=
  drawS fun base s => moveK g0 (put p47 (nilK g47 (put p48 (offK 0 g48 (put p49 (dLoad 3 7 base g49 s fun s => load1K g49 (put p50 (moveK g2 (put p51 (dLoad 5 0 base g15 s fun s => loadNK 64 g15 (put p52 (dBig 6 63 s (fun k => callK call 164 (fun tm => [g50 tm, g51 tm, g52 tm]) (k)) fun s => put p53 (moveK g53 (put p46 (extrK 0 g46 (put p54 (extrK 1 g46 (put p55 (moveK g54 (put p16 (moveK g55 (put p14 (mv g14 p56 (intK gEql (bin TT .eql 28) g56 (constE (.int .i64 (.ofNat 0))) (put p57 (mv g57 p58 (guard2 (wantG o58 true) (mv g16 p59 (mv g0 p60 (nilK g60 (put p61 (offK 267 g61 (put p62 (load1K g62 (put p63 (intK gNeq (bin TT .neq 3) g59 g63 (put p64 ((F131j1 call round K)))))))))))) (put p59 (put p60 (put p61 (put p62 (put p63 (put p64 ((F131j1 call round K)) (.tuple [])) (.tuple [])) (.tuple [])) (.tuple [])) (.tuple [])) (.tuple [])))))))))))))))))))))))))))))
def F131j3 (call round : Caller) (K : Nat) : CF :=
  drawS fun base s => moveK g0 (put p35 (nilK g35 (put p36 (offK 7 g36 (put p37 (dLoad 3 7 base g37 s fun s => loadNK 256 g37 (put p38 (dLoad 4 0 base g13 s fun s => loadNK 49 g13 (put p39 (dBig 5 31 s (fun k => callK call 177 (fun tm => [g38 tm, g39 tm]) (k)) fun s => put p40 (moveK g40 (put p34 (extrK 0 g34 (put p41 (extrK 1 g34 (put p42 (dNew 9 s fun s => allocK (List.replicate 64 (.int .u8 (.ofNat 0))) 103 (put p15 (dSto 10 767 g15 s fun s => storeK 64 g15 g41 (dropS (moveK g42 (put p14 (mv g14 p43 (intK gNeq (bin TT .neq 28) g43 (constE (.int .i64 (.ofNat 0))) (put p44 (condC g44 (mv g14 p45 (mv g45 p12 (F131ret))) ((F131j2 call round K))))))))))))))))))))))))))))
def F131 (call round : Caller) (K : Nat) : FnT := funC 67 (boxK 89 g1 (put p7 (mv (constE (.int .i64 (.ofNat 0))) p12 (mv g3 p17 (offK 5 g7 (put p18 (storeK 1 g18 g17 (dropS (drawS fun base s => dLoad 0 0 base g7 s fun s => loadNK 38 g7 (put p20 (moveK g2 (put p21 (moveK g0 (put p22 (nilK g22 (put p23 (offK 267 g23 (put p24 (dLoad 5 28 base g24 s fun s => load1K g24 (put p25 (moveK g4 (put p26 (moveK g5 (put p27 (dBig 8 255 s (fun k => callK call 79 (fun tm => [g20 tm, g21 tm, g25 tm, g26 tm, g27 tm]) (k)) fun s => put p28 (moveK g28 (put p19 (extrK 0 g19 (put p29 (extrK 1 g19 (put p30 (dNew 12 s fun s => allocK (List.replicate 5 (.int .i64 (.ofNat 0)) ++ List.replicate 44 (.int .u8 (.ofNat 0))) 120 (put p13 (dSto 13 6143 g13 s fun s => storeK 49 g13 g29 (dropS (moveK g30 (put p14 (mv g14 p31 (intK gNeq (bin TT .neq 28) g31 (constE (.int .i64 (.ofNat 0))) (put p32 (condC g32 (mv g14 p33 (mv g33 p12 (F131ret))) ((F131j3 call round K)))))))))))))))))))))))))))))))))))))))))))
theorem F131_eq (call round : Caller) (K : Nat) : funF TT call round K 131 = F131 call round K := by kernel_rfl
/-! 132 (*revetment/crc.Table).over -/
def F132ret : CF := (ret1 g6)
def F132j0 (call round : Caller) (K : Nat) : CF :=
  mv g1 p22 (mv g22 p6 (F132ret))
def F132j2 (call round : Caller) (K : Nat) (ih1_ : CF) : CF :=
  intK gAdd (bin TT .add 3) g11 (constE (.int .i64 (.ofNat 1))) (put p21 (mv g21 p11 (ih1_)))
def F132j3 (call round : Caller) (K : Nat) (ih1_ : CF) : CF :=
  ixSliK 1 g9 g11 (put p13 (load1K g13 (put p14 (mv g14 p8 (mv g0 p15 (nilK g15 (put p16 (loadNK 256 g16 (put p17 (mv g1 p18 (mv g8 p19 (callK call 178 (fun tm => [g17 tm, g18 tm, g19 tm]) (put p20 (mv g20 p1 ((F132j2 call round K ih1_))))))))))))))))
def F132b4 (call round : Caller) (K : Nat) (ih1_ : CF) : CF :=
  intK gLss (bin TT .lss 3) g11 g10 (put p12 (condC g12 ((F132j3 call round K ih1_)) ((F132j0 call round K))))
def F132 (call round : Caller) (K : Nat) : FnT := funC 23 (mv (constE (.int .u32 (.ofNat 0))) p6 (mv g2 p9 (lenK g9 (put p10 (mv (constE (.int .i64 (.ofNat 0))) p11 (loopC (F132b4 call round K) K))))))
theorem F132_eq (call round : Caller) (K : Nat) : funF TT call round K 132 = F132 call round K := by kernel_rfl
/-! 133 (*revetment/plan.Drive).Read -/
def F133ret : CF := (retC TT [.cell 6 103, .tmp 7])
def F133 (call round : Caller) (K : Nat) : FnT := funC 20 (allocK (List.replicate 64 (.int .u8 (.ofNat 0))) 103 (put p6 (mv (constE (.int .i64 (.ofNat 0))) p7 (mv g0 p8 (mv g1 p9 (callK call 179 (fun tm => [g8 tm, g9 tm]) (put p10 (mv g0 p11 (nilK g11 (put p12 (offK 0 g12 (put p13 (load1K g13 (put p14 (mv g1 p15 (mv g2 p16 (callK call 180 (fun tm => [g14 tm, g15 tm, g16 tm]) (put p17 (extrK 0 g17 (put p18 (extrK 1 g17 (put p19 (storeK 64 g6 g18 (dropS (mv g19 p7 (F133ret))))))))))))))))))))))))))
theorem F133_eq (call round : Caller) (K : Nat) : funF TT call round K 133 = F133 call round K := by kernel_rfl
/-! 134 (*revetment/mirror.Mirror).lost -/
def F134ret : CF := (ret1 g4)
def F134j0 (call round : Caller) (K : Nat) : CF :=
  mv (constE (.int .i64 (.ofNat 0))) p4 (F134ret)
def F134 (call round : Caller) (K : Nat) : FnT := funC 9 (mv (constE (.int .i64 (.ofNat 0))) p4 (mv g0 p5 (mv g1 p6 (callK call 20 (fun tm => [g5 tm, g6 tm]) (put p7 (intK gEql (bin TT .eql 28) g7 (constE (.int .i64 (.ofNat 34))) (put p8 (condC g8 (mv (constE (.int .i64 (.ofNat 34))) p4 (F134ret)) ((F134j0 call round K))))))))))
theorem F134_eq (call round : Caller) (K : Nat) : funF TT call round K 134 = F134 call round K := by kernel_rfl
/-! 135 revetment/entry.Read -/
def F135ret : CF := (retC TT [.cell 2 89, .tmp 3])
def F135j0 (call round : Caller) (K : Nat) : CF :=
  loadNK 38 g4 (put p35 (storeK 38 g2 g35 (dropS (mv (constE (.int .i64 (.ofNat 0))) p3 (F135ret)))))
def F135j1 (call round : Caller) (K : Nat) : CF :=
  loadNK 38 g4 (put p19 (offK 1 g1 (put p20 (load1K g20 (put p21 (offK 2 g1 (put p22 (load1K g22 (put p23 (offK 3 g1 (put p24 (load1K g24 (put p25 (offK 4 g1 (put p26 (load1K g26 (put p27 (callK call 79 (fun tm => [g19 tm, g21 tm, g23 tm, g25 tm, g27 tm]) (put p28 (mv g28 p18 (extrK 0 g18 (put p29 (extrK 1 g18 (put p30 (mv g30 p5 (mv g5 p31 (intK gNeq (bin TT .neq 28) g31 (constE (.int .i64 (.ofNat 0))) (put p32 (condC g32 (valK (buildV (nthPR [(0, 1), (1, 1), (2, 1), (3, 1), (4, 1), (5, 1), (6, 32)]) (List.replicate 6 (.int .i64 (.ofNat 0)) ++ List.replicate 32 (.int .u8 (.ofNat 0))) (fun tm => [])) (put p33 (mv g5 p34 (storeK 38 g2 g33 (dropS (mv g34 p3 (F135ret))))))) ((F135j0 call round K)))))))))))))))))))))))))))))))
def F135 (call round : Caller) (K : Nat) : FnT := funC 36 (boxK 120 g0 (put p1 (allocK (List.replicate 6 (.int .i64 (.ofNat 0)) ++ List.replicate 32 (.int .u8 (.ofNat 0))) 89 (put p2 (mv (constE (.int .i64 (.ofNat 0))) p3 (offK 0 g1 (put p7 (load1K g7 (put p8 (offK 5 g1 (put p9 (loadNK 44 g9 (put p10 (callK call 181 (fun tm => [g8 tm, g10 tm]) (put p11 (mv g11 p6 (extrK 0 g6 (put p12 (extrK 1 g6 (put p13 (allocK (List.replicate 6 (.int .i64 (.ofNat 0)) ++ List.replicate 32 (.int .u8 (.ofNat 0))) 89 (put p4 (storeK 38 g4 g12 (dropS (mv g13 p5 (mv g5 p14 (intK gNeq (bin TT .neq 28) g14 (constE (.int .i64 (.ofNat 0))) (put p15 (condC g15 (valK (buildV (nthPR [(0, 1), (1, 1), (2, 1), (3, 1), (4, 1), (5, 1), (6, 32)]) (List.replicate 6 (.int .i64 (.ofNat 0)) ++ List.replicate 32 (.int .u8 (.ofNat 0))) (fun tm => [])) (put p16 (mv g5 p17 (storeK 38 g2 g16 (dropS (mv g17 p3 (F135ret))))))) ((F135j1 call round K)))))))))))))))))))))))))))))))
theorem F135_eq (call round : Caller) (K : Nat) : funF TT call round K 135 = F135 call round K := by kernel_rfl
/-! 140 revetment/geom.within -/
def F140ret : CF := (ret1 g6)
def F140j0 (call round : Caller) (K : Nat) : CF :=
  pickK g10 g13 (constE (.bool false)) (put p14 (mv g14 p6 (F140ret)))
def F140 (call round : Caller) (K : Nat) : FnT := funC 15 (mv (constE (.bool false)) p6 (mv g0 p7 (mv g1 p8 (intK gGeq (bin TT .geq 3) g7 g8 (put p9 (mv g9 p10 (guard2 (wantG o10 true) (mv g0 p11 (mv g2 p12 (intK gLeq (bin TT .leq 3) g11 g12 (put p13 ((F140j0 call round K)))))) (put p11 (put p12 (put p13 ((F140j0 call round K)) (.tuple [])) (.tuple [])) (.tuple [])))))))))
theorem F140_eq (call round : Caller) (K : Nat) : funF TT call round K 140 = F140 call round K := by kernel_rfl
/-! 149 (*revetment/pool.Pool).All$1 -/
def F149ret : CF := ret0
def F149j1 (call round : Caller) (K : Nat) (ih0_ : CF) : CF :=
  intK gAdd (bin TT .add 3) g12 (constE (.int .i64 (.ofNat 1))) (put p26 (mv g26 p12 (ih0_)))
def F149j2 (call round : Caller) (K : Nat) (ih0_ : CF) : CF :=
  mv g12 p14 (ixSliK 1 g10 g12 (put p15 (load1K g15 (put p16 (allocK [(.int .i64 (.ofNat 0))] 3 (put p3 (storeK 1 g3 g14 (dropS (mv g16 p4 (mv g4 p17 (callK call 150 (fun tm => [g17 tm]) (put p18 (rangeS TT call 149 27 none 0 (fun _ => badC) [(2, (F149j1 call round K ih0_)), (1, (F149j1 call round K ih0_)), (0, F149ret)] F149ret ((F149j1 call round K ih0_)))))))))))))))
def F149b3 (call round : Caller) (K : Nat) (ih0_ : CF) : CF :=
  intK gLss (bin TT .lss 3) g12 g11 (put p13 (condC g13 ((F149j2 call round K ih0_)) (F149ret)))
def F149 (call round : Caller) (K : Nat) : FnT := funC 27 (boxK 142 g0 (put p2 (load1K g1 (put p7 (nilK g7 (put p8 (offK 6 g8 (put p9 (load1K g9 (put p10 (lenK g10 (put p11 (mv (constE (.int .i64 (.ofNat 0))) p12 (loopC (F149b3 call round K) K))))))))))))))
theorem F149_eq (call round : Caller) (K : Nat) : funF TT call round K 149 = F149 call round K := by kernel_rfl
def F149r0body (call round : Caller) (K l : Nat) : CF :=
  load1K g2 (put p21 (load1K g3 (put p22 (mv g6 p23 (callVK call round g21 (fun tm => [g22 tm, g23 tm]) (put p24 (notK g24 (put p25 (condC g25 ((roundEnd l false .done (some .ret))) ((roundEnd l true .ready none)))))))))))
def F149r0 (call round : Caller) (K l : Nat) : CF :=
  mv g20 p6 (beginC l (F149r0body call round K l))
theorem F149r0_eq (call round : Caller) (K l : Nat) : codeK TT call round K 149 27 (some l) (fun id => roundEnd l false .done (some (.exit id))) (roundEnd l false .done (some .ret)) (rangeAt TT 149 0).2.2.1 [] (beginC l (codeK TT call round K 149 27 (some l) (fun id => roundEnd l false .done (some (.exit id))) (roundEnd l false .done (some .ret)) (rangeAt TT 149 0).2.2.2 [] (roundEnd l true .ready none))) = F149r0 call round K l := by kernel_rfl
/-! 150 (*revetment/queue.Queue[int]).All -/
def F150ret : CF := (ret1 g2)
def F150 (call round : Caller) (K : Nat) : FnT := funC 4 (boxK 153 g0 (put p1 (mv (constE .nilfunc) p2 (valK (makeFuncV 190 (fun tm => []) (fun tm => [g1 tm])) (put p3 (mv g3 p2 (F150ret)))))))
theorem F150_eq (call round : Caller) (K : Nat) : funF TT call round K 150 = F150 call round K := by kernel_rfl
/-! 154 revetment/frame.Decode -/
def F154ret : CF := (retC TT [.cell 4 120, .tmp 5])
def F154j0 (call round : Caller) (K : Nat) : CF :=
  loadNK 49 g9 (put p58 (storeK 49 g4 g58 (dropS (mv (constE (.int .i64 (.ofNat 0))) p5 (F154ret)))))
def F154j1 (call round : Caller) (K : Nat) : CF :=
  pickK g52 (constE (.bool true)) g55 (put p56 (condC g56 (valK (buildV (nthPR [(0, 1), (1, 1), (2, 1), (3, 1), (4, 1), (5, 44)]) (List.replicate 5 (.int .i64 (.ofNat 0)) ++ List.replicate 44 (.int .u8 (.ofNat 0))) (fun tm => [])) (put p57 (storeK 49 g4 g57 (dropS (mv (constE (.int .i64 (.ofNat 10))) p5 (F154ret)))))) ((F154j0 call round K))))
def F154j2 (call round : Caller) (K : Nat) : CF :=
  pickK g47 (constE (.bool true)) g50 (put p51 (mv g51 p52 (guard2 (wantG o52 false) (mv g8 p53 (callK call 197 (fun tm => [g53 tm]) (put p54 (intK gNeq (bin TT .neq 28) g54 (constE (.int .i64 (.ofNat 0))) (put p55 ((F154j1 call round K))))))) (put p53 (put p54 (put p55 ((F154j1 call round K)) (.tuple [])) (.tuple [])) (.tuple [])))))
def F154j3 (call round : Caller) (K : Nat) : CF :=
  mv g6 p21 (callK call 194 (fun tm => [g21 tm]) (put p22 (mv g22 p8 (mv g8 p23 (callK call 195 (fun tm => [g23 tm, (constE (.int .i64 (.ofNat 1))) tm]) (put p24 (valK (buildV (nthPR [(0, 1), (1, 1), (2, 1), (3, 1), (4, 1), (5, 44)]) (List.replicate 5 (.int .i64 (.ofNat 0)) ++ List.replicate 44 (.int .u8 (.ofNat 0))) (fun tm => [(0, g24 tm)])) (put p25 (allocK (List.replicate 5 (.int .i64 (.ofNat 0)) ++ List.replicate 44 (.int .u8 (.ofNat 0))) 120 (put p9 (storeK 49 g9 g25 (dropS (mv g8 p26 (callK call 195 (fun tm => [g26 tm, (constE (.int .i64 (.ofNat 1))) tm]) (put p27 (mv g27 p10 (mv g8 p28 (callK call 195 (fun tm => [g28 tm, (constE (.int .i64 (.ofNat 2))) tm]) (put p29 (mv g8 p30 (callK call 195 (fun tm => [g30 tm, (constE (.int .i64 (.ofNat 2))) tm]) (put p31 (mv g8 p32 (callK call 195 (fun tm => [g32 tm, (constE (.int .i64 (.ofNat 4))) tm]) (put p33 (mv g8 p34 (callK call 195 (fun tm => [g34 tm, (constE (.int .i64 (.ofNat 6))) tm]) (put p35 (offK 1 g9 (put p36 (storeK 1 g36 g29 (dropS (offK 2 g9 (put p37 (storeK 1 g37 g31 (dropS (offK 3 g9 (put p38 (storeK 1 g38 g33 (dropS (offK 4 g9 (put p39 (storeK 1 g39 g35 (dropS (drawS fun base s => offK 5 g9 (put p40 (valK (sliArrV 44 1 g40 (fun _ => none) (fun _ => none) (fun _ => none)) (put p41 (moveK g8 (put p42 (dBig 3 4 s (fun k => callK call 196 (fun tm => [g42 tm, (constE (.int .i64 (.ofNat 44))) tm]) (k)) fun s => put p43 (dBig 4 15 s (fun k => slowK (builtinM TT .copy #[174, 174] (fun tm => [g41 tm, g43 tm])) (k)) fun s => put p44 (mv g10 p45 (intK gNeq (bin TT .neq 3) g45 (constE (.int .i64 (.ofNat 1))) (put p46 (mv g46 p47 (guard2 (wantG o47 false) (loadNK 49 g9 (put p48 (callK call 129 (fun tm => [g48 tm]) (put p49 (notK g49 (put p50 ((F154j2 call round K)))))))) (put p48 (put p49 (put p50 ((F154j2 call round K)) (.tuple [])) (.tuple [])) (.tuple [])))))))))))))))))))))))))))))))))))))))))))))))))))))))))))
def F154 (call round : Caller) (K : Nat) : FnT := funC 59 (boxK 72 g0 (put p2 (boxK 103 g1 (put p3 (allocK (List.replicate 5 (.int .i64 (.ofNat 0)) ++ List.replicate 44 (.int .u8 (.ofNat 0))) 120 (put p4 (mv (constE (.int .i64 (.ofNat 0))) p5 (drawS fun base s => dLoad 0 0 base g2 s fun s => loadNK 256 g2 (put p12 (valK (sliArrV 64 1 g3 (fun _ => none) (fun _ => none) (fun _ => none)) (put p13 (dBig 2 3 s (fun k => callK call 193 (fun tm => [g12 tm, g13 tm]) (k)) fun s => put p14 (moveK g14 (put p11 (extrK 0 g11 (put p15 (extrK 1 g11 (put p16 (moveK g15 (put p6 (moveK g16 (put p7 (mv g7 p17 (intK gNeq (bin TT .neq 28) g17 (constE (.int .i64 (.ofNat 0))) (put p18 (condC g18 (valK (buildV (nthPR [(0, 1), (1, 1), (2, 1), (3, 1), (4, 1), (5, 44)]) (List.replicate 5 (.int .i64 (.ofNat 0)) ++ List.replicate 44 (.int .u8 (.ofNat 0))) (fun tm => [])) (put p19 (mv g7 p20 (storeK 49 g4 g19 (dropS (mv g20 p5 (F154ret))))))) ((F154j3 call round K))))))))))))))))))))))))))))
theorem F154_eq (call round : Caller) (K : Nat) : funF TT call round K 154 = F154 call round K := by kernel_rfl
/-! 159 (revetment/geom.Geom).Reserve -/
def F159ret : CF := (ret1 g2)
def F159 (call round : Caller) (K : Nat) : FnT := funC 9 (boxK 23 g0 (put p1 (mv (constE (.int .i64 (.ofNat 0))) p2 (offK 0 g1 (put p3 (load1K g3 (put p4 (offK 4 g1 (put p5 (load1K g5 (put p6 (intK gMul (bin TT .mul 3) g4 g6 (put p7 (intK gAdd (bin TT .add 3) g7 (constE (.int .i64 (.ofNat 4))) (put p8 (mv g8 p2 (F159ret)))))))))))))))))
theorem F159_eq (call round : Caller) (K : Nat) : funF TT call round K 159 = F159 call round K := by kernel_rfl
/-! 161 (*revetment/pool.Pool).Take -/
def F161ret : CF := (ret2 g4 g5)
def F161j0 (call round : Caller) (K : Nat) : CF :=
  mv g0 p17 (nilK g17 (put p18 (offK 6 g18 (put p19 (load1K g19 (put p20 (mv g1 p21 (ixSliK 1 g20 g21 (put p22 (load1K g22 (put p23 (callK call 171 (fun tm => [g23 tm]) (put p24 (extrK 0 g24 (put p25 (extrK 1 g24 (put p26 (mv g25 p4 (mv g26 p5 (F161ret))))))))))))))))))))
def F161j1 (call round : Caller) (K : Nat) : CF :=
  pickK g8 (constE (.bool true)) g15 (put p16 (condC g16 (mv (constE (.int .i64 (.ofNat 0))) p4 (mv (constE (.int .i64 (.ofNat 13))) p5 (F161ret))) ((F161j0 call round K))))
def F161 (call round : Caller) (K : Nat) : FnT := funC 27 (mv (constE (.int .i64 (.ofNat 0))) p4 (mv (constE (.int .i64 (.ofNat 0))) p5 (mv g1 p6 (intK gLss (bin TT .lss 3) g6 (constE (.int .i64 (.ofNat 0))) (put p7 (mv g7 p8 (guard2 (wantG o8 false) (mv g1 p9 (mv g0 p10 (nilK g10 (put p11 (offK 6 g11 (put p12 (load1K g12 (put p13 (lenK g13 (put p14 (intK gGeq (bin TT .geq 3) g9 g14 (put p15 ((F161j1 call round K)))))))))))))) (put p9 (put p10 (put p11 (put p12 (put p13 (put p14 (put p15 ((F161j1 call round K)) (.tuple [])) (.tuple [])) (.tuple [])) (.tuple [])) (.tuple [])) (.tuple [])) (.tuple [])))))))))
theorem F161_eq (call round : Caller) (K : Nat) : funF TT call round K 161 = F161 call round K := by kernel_rfl
/-! 164 (*revetment/plan.Drive).Append -/
def F164ret : CF := (ret2 g6 g7)
def F164j0 (call round : Caller) (K : Nat) : CF :=
  mv g8 p32 (mv g9 p33 (mv g32 p6 (mv g33 p7 (F164ret))))
def F164 (call round : Caller) (K : Nat) : FnT := funC 34 (boxK 103 g2 (put p5 (mv (constE (.int .i64 (.ofNat 0))) p6 (mv (constE (.int .i64 (.ofNat 0))) p7 (mv g0 p10 (mv g1 p11 (callK call 179 (fun tm => [g10 tm, g11 tm]) (put p12 (drawS fun base s => moveK g0 (put p14 (nilK g14 (put p15 (offK 0 g15 (put p16 (dLoad 3 7 base g16 s fun s => load1K g16 (put p17 (moveK g1 (put p18 (dLoad 5 0 base g5 s fun s => loadNK 64 g5 (put p19 (dBig 6 63 s (fun k => callK call 203 (fun tm => [g17 tm, g18 tm, g19 tm]) (k)) fun s => put p20 (moveK g20 (put p13 (extrK 0 g13 (put p21 (extrK 1 g13 (put p22 (moveK g21 (put p8 (moveK g22 (put p9 (mv g9 p23 (intK gEql (bin TT .eql 28) g23 (constE (.int .i64 (.ofNat 0))) (put p24 (condC g24 (mv g0 p25 (nilK g25 (put p26 (offK 3 g26 (put p27 (load1K g27 (put p28 (mv g1 p29 (mv g8 p30 (valK (buildV (nthPR [(0, 1), (1, 1)]) [(.int .i64 (.ofNat 0)), (.int .i64 (.ofNat 0))] (fun tm => [(0, g29 tm), (1, g30 tm)])) (put p31 (slowK (builtinM TT .delete #[164, 243] (fun tm => [g28 tm, g31 tm])) (dropS ((F164j0 call round K))))))))))))))) ((F164j0 call round K)))))))))))))))))))))))))))))))))))))
theorem F164_eq (call round : Caller) (K : Nat) : funF TT call round K 164 = F164 call round K := by kernel_rfl
/-! 165 (*revetment/plan.Drive).Finish -/
def F165ret : CF := (ret1 g4)
def F165 (call round : Caller) (K : Nat) : FnT := funC 14 (mv (constE (.int .i64 (.ofNat 0))) p4 (mv g0 p5 (mv g1 p6 (callK call 179 (fun tm => [g5 tm, g6 tm]) (put p7 (mv g0 p8 (nilK g8 (put p9 (offK 0 g9 (put p10 (load1K g10 (put p11 (mv g1 p12 (callK call 204 (fun tm => [g11 tm, g12 tm]) (put p13 (mv g13 p4 (F165ret)))))))))))))))))
theorem F165_eq (call round : Caller) (K : Nat) : funF TT call round K 165 = F165 call round K := by kernel_rfl
/-! 166 (*revetment/zdev.Device).Down -/
def F166ret : CF := (ret1 g2)
def F166 (call round : Caller) (K : Nat) : FnT := funC 7 (mv (constE (.bool false)) p2 (mv g0 p3 (nilK g3 (put p4 (offK 4 g4 (put p5 (load1K g5 (put p6 (mv g6 p2 (F166ret))))))))))
theorem F166_eq (call round : Caller) (K : Nat) : funF TT call round K 166 = F166 call round K := by kernel_rfl
/-! 167 (*revetment/zdev.Device).Count -/
def F167ret : CF := (ret1 g2)
def F167 (call round : Caller) (K : Nat) : FnT := funC 7 (mv (constE (.int .i64 (.ofNat 0))) p2 (mv g0 p3 (nilK g3 (put p4 (offK 3 g4 (put p5 (load1K g5 (put p6 (mv g6 p2 (F167ret))))))))))
theorem F167_eq (call round : Caller) (K : Nat) : funF TT call round K 167 = F167 call round K := by kernel_rfl
/-! 168 slices.Clone[[]revetment/plan.Event,revetment/plan.Event] -/
def F168ret : CF := (ret1 g2)
def F168j0 (call round : Caller) (K : Nat) : CF :=
  slowK (buildSliceM (List.replicate 4 (.int .i64 (.ofNat 0)) ++ List.replicate 64 (.int .u8 (.ofNat 0))) 105 68 0 (fun tm => [])) (put p5 (mv g0 p6 (slowK (appendM 105 68 g5 g6) (put p7 (mv g7 p2 (F168ret))))))
def F168 (call round : Caller) (K : Nat) : FnT := funC 8 (mv (constE .nilslice) p2 (mv g0 p3 (intK gEql (bin TT .eql 101) g3 (constE .nilslice) (put p4 (condC g4 (mv (constE .nilslice) p2 (F168ret)) ((F168j0 call round K)))))))
theorem F168_eq (call round : Caller) (K : Nat) : funF TT call round K 168 = F168 call round K := by kernel_rfl
/-! 169 (*revetment/plan.Drive).happen -/
def F169ret : CF := ret0
def F169 (call round : Caller) (K : Nat) : FnT := funC 46 (boxK 105 g1 (put p3 (drawS fun base s => moveK g0 (put p4 (moveK g0 (put p5 (nilK g5 (put p6 (offK 2 g6 (put p7 (dLoad 4 14 base g7 s fun s => load1K g7 (put p8 (dLoad 5 0 base g3 s fun s => loadNK 68 g3 (put p9 (dNew 6 s fun s => slowK (buildSliceM (List.replicate 4 (.int .i64 (.ofNat 0)) ++ List.replicate 64 (.int .u8 (.ofNat 0))) 105 68 1 (fun tm => [(0, g9 tm)])) (put p10 (dBig 7 126 s (fun k => slowK (appendM 105 68 g8 g10) (k)) fun s => put p11 (nilK g4 (put p12 (offK 2 g12 (put p13 (dSto 10 1023 g13 s fun s => storeK 1 g13 g11 (dropS (offK 1 g3 (put p14 (load1K g14 (put p15 (intK gEql (bin TT .eql 3) g15 (constE (.int .i64 (.ofNat 1))) (put p17 (mv g17 p16 (condC g16 (mv g0 p18 (loadNK 68 g3 (put p19 (callK call 205 (fun tm => [g18 tm, g19 tm]) (put p20 (F169ret)))))) (intK gEql (bin TT .eql 3) g15 (constE (.int .i64 (.ofNat 2))) (put p22 (mv g22 p21 (condC g21 (drawS fun base s => moveK g0 (put p23 (nilK g23 (put p24 (offK 0 g24 (put p25 (dLoad 3 7 base g25 s fun s => load1K g25 (put p26 (offK 2 g3 (put p27 (dLoad 5 16 base g27 s fun s => load1K g27 (put p28 (dBig 6 63 s (fun k => callK call 206 (fun tm => [g26 tm, g28 tm, (constE (.int .i64 (.ofNat 3))) tm]) (k)) fun s => put p29 (F169ret)))))))))))))) (intK gEql (bin TT .eql 3) g15 (constE (.int .i64 (.ofNat 3))) (put p31 (mv g31 p30 (condC g30 (drawS fun base s => moveK g0 (put p32 (nilK g32 (put p33 (offK 0 g33 (put p34 (dLoad 3 7 base g34 s fun s => load1K g34 (put p35 (offK 2 g3 (put p36 (dLoad 5 16 base g36 s fun s => load1K g36 (put p37 (dBig 6 63 s (fun k => callK call 206 (fun tm => [g35 tm, g37 tm, (constE (.int .i64 (.ofNat 4))) tm]) (k)) fun s => put p38 (F169ret)))))))))))))) (intK gEql (bin TT .eql 3) g15 (constE (.int .i64 (.ofNat 4))) (put p40 (mv g40 p39 (condC g39 (mv g0 p41 (nilK g41 (put p42 (offK 0 g42 (put p43 (load1K g43 (put p44 (callK call 39 (fun tm => [g44 tm]) (put p45 (F169ret)))))))))) (F169ret))))))))))))))))))))))))))))))))))))))))))))
theorem F169_eq (call round : Caller) (K : Nat) : funF TT call round K 169 = F169 call round K := by kernel_rfl
/-! 170 (*revetment/zone.Zone[revetment/frame.Sector]).Flush -/
def F170ret : CF := ret0
def F170 (call round : Caller) (K : Nat) : FnT := funC 10 (mv g0 p2 (mv g0 p3 (nilK g3 (put p4 (offK 0 g4 (put p5 (load1K g5 (put p6 (lenK g6 (put p7 (nilK g2 (put p8 (offK 2 g8 (put p9 (storeK 1 g9 g7 (dropS (F170ret)))))))))))))))))
theorem F170_eq (call round : Caller) (K : Nat) : funF TT call round K 170 = F170 call round K := by kernel_rfl
/-! 171 (*revetment/queue.Queue[int]).Take -/
def F171ret : CF := (ret2 g2 g3)
def F171 (call round : Caller) (K : Nat) : FnT := funC 16 (mv (constE (.int .i64 (.ofNat 0))) p2 (mv (constE (.int .i64 (.ofNat 0))) p3 (mv g0 p6 (nilK g6 (put p7 (offK 0 g7 (put p8 (load1K g8 (put p9 (slowK (recvM (.int .i64 (.ofNat 0)) g9) (put p10 (extrK 0 g10 (put p11 (intK gEql (bin TT .eql 3) g11 (constE (.int .i64 (.ofNat 0))) (put p12 (condC g12 (extrK 2 g10 (put p14 (mv g14 p4 (mv g4 p15 (mv g15 p2 (mv (constE (.int .i64 (.ofNat 0))) p3 (F171ret))))))) (mv (constE (.int .i64 (.ofNat 0))) p5 (mv g5 p13 (mv g13 p2 (mv (constE (.int .i64 (.ofNat 15))) p3 (F171ret)))))))))))))))))))))
theorem F171_eq (call round : Caller) (K : Nat) : funF TT call round K 171 = F171 call round K := by kernel_rfl
/-! 172 (revetment/entry.Entry).Right -/
def F172ret : CF := (ret1 g2)
def F172j0 (call round : Caller) (K : Nat) : CF :=
  pickK g16 g18 (constE (.bool false)) (put p19 (mv g19 p2 (F172ret)))
def F172j1 (call round : Caller) (K : Nat) : CF :=
  pickK g11 g14 (constE (.bool false)) (put p15 (mv g15 p16 (guard2 (wantG o16 true) (loadNK 38 g1 (put p17 (callK call 208 (fun tm => [g17 tm]) (put p18 ((F172j0 call round K)))))) (put p17 (put p18 ((F172j0 call round K)) (.tuple [])) (.tuple [])))))
def F172j2 (call round : Caller) (K : Nat) : CF :=
  pickK g6 g9 (constE (.bool false)) (put p10 (mv g10 p11 (guard2 (wantG o11 true) (offK 5 g1 (put p12 (load1K g12 (put p13 (callK call 207 (fun tm => [g13 tm, (constE (.int .i64 (.ofNat 0))) tm, (constE (.int .i64 (.ofNat 65535))) tm]) (put p14 ((F172j1 call round K)))))))) (put p12 (put p13 (put p14 ((F172j1 call round K)) (.tuple [])) (.tuple [])) (.tuple [])))))
def F172 (call round : Caller) (K : Nat) : FnT := funC 20 (boxK 89 g0 (put p1 (mv (constE (.bool false)) p2 (offK 1 g1 (put p3 (load1K g3 (put p4 (callK call 207 (fun tm => [g4 tm, (constE (.int .i64 (.ofNat 0))) tm, (constE (.int .i64 (.ofNat 281474976710655))) tm]) (put p5 (mv g5 p6 (guard2 (wantG o6 true) (offK 3 g1 (put p7 (load1K g7 (put p8 (callK call 207 (fun tm => [g8 tm, (constE (.int .i64 (.ofNat 0))) tm, (constE (.int .i64 (.ofNat 255))) tm]) (put p9 ((F172j2 call round K)))))))) (put p7 (put p8 (put p9 ((F172j2 call round K)) (.tuple [])) (.tuple [])) (.tuple [])))))))))))))
theorem F172_eq (call round : Caller) (K : Nat) : funF TT call round K 172 = F172 call round K := by kernel_rfl
/-! 173 (*revetment/codec.Pen).Num -/
def F173ret : CF := ret0
def F173j1 (call round : Caller) (K : Nat) (ih0_ : CF) : CF :=
  intK gAdd (bin TT .add 3) g19 (constE (.int .i64 (.ofNat 1))) (put p34 (mv g34 p19 (ih0_)))
def F173j2 (call round : Caller) (K : Nat) (ih0_ : CF) : CF :=
  mv g0 p21 (mv g0 p22 (nilK g22 (put p23 (offK 0 g23 (put p24 (load1K g24 (put p25 (mv g2 p26 (convK .u8 g26 (put p27 (slowK (buildSliceM [(.int .u8 (.ofNat 0))] 5 1 1 (fun tm => [(0, g27 tm)])) (put p28 (slowK (appendM 5 1 g25 g28) (put p29 (nilK g21 (put p30 (offK 0 g30 (put p31 (storeK 1 g31 g29 (dropS (mv g2 p32 (binK (bin TT .shr 3) g32 (constE (.int .u64 (.ofNat 8))) (put p33 (mv g33 p2 ((F173j1 call round K ih0_))))))))))))))))))))))))))
def F173b3 (call round : Caller) (K : Nat) (ih0_ : CF) : CF :=
  intK gLss (bin TT .lss 3) g19 g18 (put p20 (condC g20 ((F173j2 call round K ih0_)) (F173ret)))
def F173j4 (call round : Caller) (K : Nat) : CF :=
  mv g1 p18 (mv (constE (.int .i64 (.ofNat 0))) p19 (loopC (F173b3 call round K) K))
def F173j5 (call round : Caller) (K : Nat) : CF :=
  pickK g9 (constE (.bool true)) g13 (put p14 (condC g14 (mv g0 p15 (nilK g15 (put p16 (offK 1 g16 (put p17 (storeK 1 g17 (constE (.bool true)) (dropS (F173ret)))))))) ((F173j4 call round K))))
def F173 (call round : Caller) (K : Nat) : FnT := funC 35 (mv g1 p6 (callK call 209 (fun tm => [g6 tm]) (put p7 (notK g7 (put p8 (mv g8 p9 (guard2 (wantG o9 false) (mv g2 p10 (callK call 210 (fun tm => [g10 tm]) (put p11 (mv g1 p12 (intK gGtr (bin TT .gtr 3) g11 g12 (put p13 ((F173j5 call round K)))))))) (put p10 (put p11 (put p12 (put p13 ((F173j5 call round K)) (.tuple [])) (.tuple [])) (.tuple [])) (.tuple [])))))))))
theorem F173_eq (call round : Caller) (K : Nat) : funF TT call round K 173 = F173 call round K := by kernel_rfl
/-! 174 (*revetment/codec.Pen).Bytes -/
def F174ret : CF := ret0
def F174 (call round : Caller) (K : Nat) : FnT := funC 13 (mv g0 p4 (mv g0 p5 (nilK g5 (put p6 (offK 0 g6 (put p7 (load1K g7 (put p8 (mv g1 p9 (slowK (appendM 5 1 g8 g9) (put p10 (nilK g4 (put p11 (offK 0 g11 (put p12 (storeK 1 g12 g10 (dropS (F174ret))))))))))))))))))
theorem F174_eq (call round : Caller) (K : Nat) : funF TT call round K 174 = F174 call round K := by kernel_rfl
/-! 175 (*revetment/codec.Pen).Out -/
def F175ret : CF := (ret2 g2 g3)
def F175j0 (call round : Caller) (K : Nat) : CF :=
  slowK (buildSliceM [(.int .u8 (.ofNat 0))] 5 1 0 (fun tm => [])) (put p8 (mv g0 p9 (nilK g9 (put p10 (offK 0 g10 (put p11 (load1K g11 (put p12 (slowK (appendM 5 1 g8 g12) (put p13 (mv g13 p2 (mv (constE (.int .i64 (.ofNat 0))) p3 (F175ret)))))))))))))
def F175 (call round : Caller) (K : Nat) : FnT := funC 14 (mv (constE .nilslice) p2 (mv (constE (.int .i64 (.ofNat 0))) p3 (mv g0 p4 (nilK g4 (put p5 (offK 1 g5 (put p6 (load1K g6 (put p7 (condC g7 (mv (constE .nilslice) p2 (mv (constE (.int .i64 (.ofNat 13))) p3 (F175ret))) ((F175j0 call round K))))))))))))
theorem F175_eq (call round : Caller) (K : Nat) : funF TT call round K 175 = F175 call round K := by kernel_rfl
/-! 176 revetment/frame.within -/
def F176ret : CF := (ret1 g6)
def F176j0 (call round : Caller) (K : Nat) : CF :=
  pickK g10 g13 (constE (.bool false)) (put p14 (mv g14 p6 (F176ret)))
def F176 (call round : Caller) (K : Nat) : FnT := funC 15 (mv (constE (.bool false)) p6 (mv g0 p7 (mv g1 p8 (intK gGeq (bin TT .geq 3) g7 g8 (put p9 (mv g9 p10 (guard2 (wantG o10 true) (mv g0 p11 (mv g2 p12 (intK gLeq (bin TT .leq 3) g11 g12 (put p13 ((F176j0 call round K)))))) (put p11 (put p12 (put p13 ((F176j0 call round K)) (.tuple [])) (.tuple [])) (.tuple [])))))))))
theorem F176_eq (call round : Caller) (K : Nat) : funF TT call round K 176 = F176 call round K := by kernel_rfl
end
end Go.Ev
