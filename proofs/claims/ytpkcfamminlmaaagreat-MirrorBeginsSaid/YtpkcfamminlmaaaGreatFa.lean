/- Printed by GenD.lean. -/
import Derived.Test.YtpkcfamminlmaaaGreatTab
import Derived.Test.YtpkcfamminlmaaaGreatEvSix
set_option linter.unusedVariables false
set_option linter.unusedSimpArgs false
set_option linter.unusedSectionVars false
namespace Go.Ev
open Go.Proofs
set_option maxRecDepth 100000
noncomputable section
/- 0 -/
def o0 : Tmps → Option EV := Tr.top
def g0 : EF := gO o0
def p0 : PF := Tr.setTop
theorem g0_t (tm : Tmps) : g0 tm = tmp tm 0 := gO_tmp (show o0 = getP (pathOf 0) by kernel_rfl) tm
theorem p0_t (v : Option EV) (tm : Tmps) : p0 v tm = tm.put 0 v := pO_put (show p0 = setP (pathOf 0) by kernel_rfl) v tm
theorem w0_t (w : Bool) (tm : Tmps) : wantG o0 w tm = wantE (tmp tm 0) w := wantG_tmp (show o0 = getP (pathOf 0) by kernel_rfl) w tm
def o1 : Tmps → Option EV := Tr.goL (Tr.top)
def g1 : EF := gO o1
def p1 : PF := Tr.setL (Tr.setTop)
theorem g1_t (tm : Tmps) : g1 tm = tmp tm 1 := gO_tmp (show o1 = getP (pathOf 1) by kernel_rfl) tm
theorem p1_t (v : Option EV) (tm : Tmps) : p1 v tm = tm.put 1 v := pO_put (show p1 = setP (pathOf 1) by kernel_rfl) v tm
theorem w1_t (w : Bool) (tm : Tmps) : wantG o1 w tm = wantE (tmp tm 1) w := wantG_tmp (show o1 = getP (pathOf 1) by kernel_rfl) w tm
def o2 : Tmps → Option EV := Tr.goR (Tr.top)
def g2 : EF := gO o2
def p2 : PF := Tr.setR (Tr.setTop)
theorem g2_t (tm : Tmps) : g2 tm = tmp tm 2 := gO_tmp (show o2 = getP (pathOf 2) by kernel_rfl) tm
theorem p2_t (v : Option EV) (tm : Tmps) : p2 v tm = tm.put 2 v := pO_put (show p2 = setP (pathOf 2) by kernel_rfl) v tm
theorem w2_t (w : Bool) (tm : Tmps) : wantG o2 w tm = wantE (tmp tm 2) w := wantG_tmp (show o2 = getP (pathOf 2) by kernel_rfl) w tm
def o3 : Tmps → Option EV := Tr.goL (Tr.goL (Tr.top))
def g3 : EF := gO o3
def p3 : PF := Tr.setL (Tr.setL (Tr.setTop))
theorem g3_t (tm : Tmps) : g3 tm = tmp tm 3 := gO_tmp (show o3 = getP (pathOf 3) by kernel_rfl) tm
theorem p3_t (v : Option EV) (tm : Tmps) : p3 v tm = tm.put 3 v := pO_put (show p3 = setP (pathOf 3) by kernel_rfl) v tm
theorem w3_t (w : Bool) (tm : Tmps) : wantG o3 w tm = wantE (tmp tm 3) w := wantG_tmp (show o3 = getP (pathOf 3) by kernel_rfl) w tm
def o4 : Tmps → Option EV := Tr.goR (Tr.goL (Tr.top))
def g4 : EF := gO o4
def p4 : PF := Tr.setR (Tr.setL (Tr.setTop))
theorem g4_t (tm : Tmps) : g4 tm = tmp tm 4 := gO_tmp (show o4 = getP (pathOf 4) by kernel_rfl) tm
theorem p4_t (v : Option EV) (tm : Tmps) : p4 v tm = tm.put 4 v := pO_put (show p4 = setP (pathOf 4) by kernel_rfl) v tm
theorem w4_t (w : Bool) (tm : Tmps) : wantG o4 w tm = wantE (tmp tm 4) w := wantG_tmp (show o4 = getP (pathOf 4) by kernel_rfl) w tm
def o5 : Tmps → Option EV := Tr.goL (Tr.goR (Tr.top))
def g5 : EF := gO o5
def p5 : PF := Tr.setL (Tr.setR (Tr.setTop))
theorem g5_t (tm : Tmps) : g5 tm = tmp tm 5 := gO_tmp (show o5 = getP (pathOf 5) by kernel_rfl) tm
theorem p5_t (v : Option EV) (tm : Tmps) : p5 v tm = tm.put 5 v := pO_put (show p5 = setP (pathOf 5) by kernel_rfl) v tm
theorem w5_t (w : Bool) (tm : Tmps) : wantG o5 w tm = wantE (tmp tm 5) w := wantG_tmp (show o5 = getP (pathOf 5) by kernel_rfl) w tm
def o6 : Tmps → Option EV := Tr.goR (Tr.goR (Tr.top))
def g6 : EF := gO o6
def p6 : PF := Tr.setR (Tr.setR (Tr.setTop))
theorem g6_t (tm : Tmps) : g6 tm = tmp tm 6 := gO_tmp (show o6 = getP (pathOf 6) by kernel_rfl) tm
theorem p6_t (v : Option EV) (tm : Tmps) : p6 v tm = tm.put 6 v := pO_put (show p6 = setP (pathOf 6) by kernel_rfl) v tm
theorem w6_t (w : Bool) (tm : Tmps) : wantG o6 w tm = wantE (tmp tm 6) w := wantG_tmp (show o6 = getP (pathOf 6) by kernel_rfl) w tm
def o7 : Tmps → Option EV := Tr.goL (Tr.goL (Tr.goL (Tr.top)))
def g7 : EF := gO o7
def p7 : PF := Tr.setL (Tr.setL (Tr.setL (Tr.setTop)))
theorem g7_t (tm : Tmps) : g7 tm = tmp tm 7 := gO_tmp (show o7 = getP (pathOf 7) by kernel_rfl) tm
theorem p7_t (v : Option EV) (tm : Tmps) : p7 v tm = tm.put 7 v := pO_put (show p7 = setP (pathOf 7) by kernel_rfl) v tm
theorem w7_t (w : Bool) (tm : Tmps) : wantG o7 w tm = wantE (tmp tm 7) w := wantG_tmp (show o7 = getP (pathOf 7) by kernel_rfl) w tm
def o8 : Tmps → Option EV := Tr.goR (Tr.goL (Tr.goL (Tr.top)))
def g8 : EF := gO o8
def p8 : PF := Tr.setR (Tr.setL (Tr.setL (Tr.setTop)))
theorem g8_t (tm : Tmps) : g8 tm = tmp tm 8 := gO_tmp (show o8 = getP (pathOf 8) by kernel_rfl) tm
theorem p8_t (v : Option EV) (tm : Tmps) : p8 v tm = tm.put 8 v := pO_put (show p8 = setP (pathOf 8) by kernel_rfl) v tm
theorem w8_t (w : Bool) (tm : Tmps) : wantG o8 w tm = wantE (tmp tm 8) w := wantG_tmp (show o8 = getP (pathOf 8) by kernel_rfl) w tm
def o9 : Tmps → Option EV := Tr.goL (Tr.goR (Tr.goL (Tr.top)))
def g9 : EF := gO o9
def p9 : PF := Tr.setL (Tr.setR (Tr.setL (Tr.setTop)))
theorem g9_t (tm : Tmps) : g9 tm = tmp tm 9 := gO_tmp (show o9 = getP (pathOf 9) by kernel_rfl) tm
theorem p9_t (v : Option EV) (tm : Tmps) : p9 v tm = tm.put 9 v := pO_put (show p9 = setP (pathOf 9) by kernel_rfl) v tm
theorem w9_t (w : Bool) (tm : Tmps) : wantG o9 w tm = wantE (tmp tm 9) w := wantG_tmp (show o9 = getP (pathOf 9) by kernel_rfl) w tm
def o10 : Tmps → Option EV := Tr.goR (Tr.goR (Tr.goL (Tr.top)))
def g10 : EF := gO o10
def p10 : PF := Tr.setR (Tr.setR (Tr.setL (Tr.setTop)))
theorem g10_t (tm : Tmps) : g10 tm = tmp tm 10 := gO_tmp (show o10 = getP (pathOf 10) by kernel_rfl) tm
theorem p10_t (v : Option EV) (tm : Tmps) : p10 v tm = tm.put 10 v := pO_put (show p10 = setP (pathOf 10) by kernel_rfl) v tm
theorem w10_t (w : Bool) (tm : Tmps) : wantG o10 w tm = wantE (tmp tm 10) w := wantG_tmp (show o10 = getP (pathOf 10) by kernel_rfl) w tm
def o11 : Tmps → Option EV := Tr.goL (Tr.goL (Tr.goR (Tr.top)))
def g11 : EF := gO o11
def p11 : PF := Tr.setL (Tr.setL (Tr.setR (Tr.setTop)))
theorem g11_t (tm : Tmps) : g11 tm = tmp tm 11 := gO_tmp (show o11 = getP (pathOf 11) by kernel_rfl) tm
theorem p11_t (v : Option EV) (tm : Tmps) : p11 v tm = tm.put 11 v := pO_put (show p11 = setP (pathOf 11) by kernel_rfl) v tm
theorem w11_t (w : Bool) (tm : Tmps) : wantG o11 w tm = wantE (tmp tm 11) w := wantG_tmp (show o11 = getP (pathOf 11) by kernel_rfl) w tm
def o12 : Tmps → Option EV := Tr.goR (Tr.goL (Tr.goR (Tr.top)))
def g12 : EF := gO o12
def p12 : PF := Tr.setR (Tr.setL (Tr.setR (Tr.setTop)))
theorem g12_t (tm : Tmps) : g12 tm = tmp tm 12 := gO_tmp (show o12 = getP (pathOf 12) by kernel_rfl) tm
theorem p12_t (v : Option EV) (tm : Tmps) : p12 v tm = tm.put 12 v := pO_put (show p12 = setP (pathOf 12) by kernel_rfl) v tm
theorem w12_t (w : Bool) (tm : Tmps) : wantG o12 w tm = wantE (tmp tm 12) w := wantG_tmp (show o12 = getP (pathOf 12) by kernel_rfl) w tm
def o13 : Tmps → Option EV := Tr.goL (Tr.goR (Tr.goR (Tr.top)))
def g13 : EF := gO o13
def p13 : PF := Tr.setL (Tr.setR (Tr.setR (Tr.setTop)))
theorem g13_t (tm : Tmps) : g13 tm = tmp tm 13 := gO_tmp (show o13 = getP (pathOf 13) by kernel_rfl) tm
theorem p13_t (v : Option EV) (tm : Tmps) : p13 v tm = tm.put 13 v := pO_put (show p13 = setP (pathOf 13) by kernel_rfl) v tm
theorem w13_t (w : Bool) (tm : Tmps) : wantG o13 w tm = wantE (tmp tm 13) w := wantG_tmp (show o13 = getP (pathOf 13) by kernel_rfl) w tm
def o14 : Tmps → Option EV := Tr.goR (Tr.goR (Tr.goR (Tr.top)))
def g14 : EF := gO o14
def p14 : PF := Tr.setR (Tr.setR (Tr.setR (Tr.setTop)))
theorem g14_t (tm : Tmps) : g14 tm = tmp tm 14 := gO_tmp (show o14 = getP (pathOf 14) by kernel_rfl) tm
theorem p14_t (v : Option EV) (tm : Tmps) : p14 v tm = tm.put 14 v := pO_put (show p14 = setP (pathOf 14) by kernel_rfl) v tm
theorem w14_t (w : Bool) (tm : Tmps) : wantG o14 w tm = wantE (tmp tm 14) w := wantG_tmp (show o14 = getP (pathOf 14) by kernel_rfl) w tm
def o15 : Tmps → Option EV := Tr.goL (Tr.goL (Tr.goL (Tr.goL (Tr.top))))
def g15 : EF := gO o15
def p15 : PF := Tr.setL (Tr.setL (Tr.setL (Tr.setL (Tr.setTop))))
theorem g15_t (tm : Tmps) : g15 tm = tmp tm 15 := gO_tmp (show o15 = getP (pathOf 15) by kernel_rfl) tm
theorem p15_t (v : Option EV) (tm : Tmps) : p15 v tm = tm.put 15 v := pO_put (show p15 = setP (pathOf 15) by kernel_rfl) v tm
theorem w15_t (w : Bool) (tm : Tmps) : wantG o15 w tm = wantE (tmp tm 15) w := wantG_tmp (show o15 = getP (pathOf 15) by kernel_rfl) w tm
def o16 : Tmps → Option EV := Tr.goR (Tr.goL (Tr.goL (Tr.goL (Tr.top))))
def g16 : EF := gO o16
def p16 : PF := Tr.setR (Tr.setL (Tr.setL (Tr.setL (Tr.setTop))))
theorem g16_t (tm : Tmps) : g16 tm = tmp tm 16 := gO_tmp (show o16 = getP (pathOf 16) by kernel_rfl) tm
theorem p16_t (v : Option EV) (tm : Tmps) : p16 v tm = tm.put 16 v := pO_put (show p16 = setP (pathOf 16) by kernel_rfl) v tm
theorem w16_t (w : Bool) (tm : Tmps) : wantG o16 w tm = wantE (tmp tm 16) w := wantG_tmp (show o16 = getP (pathOf 16) by kernel_rfl) w tm
def o17 : Tmps → Option EV := Tr.goL (Tr.goR (Tr.goL (Tr.goL (Tr.top))))
def g17 : EF := gO o17
def p17 : PF := Tr.setL (Tr.setR (Tr.setL (Tr.setL (Tr.setTop))))
theorem g17_t (tm : Tmps) : g17 tm = tmp tm 17 := gO_tmp (show o17 = getP (pathOf 17) by kernel_rfl) tm
theorem p17_t (v : Option EV) (tm : Tmps) : p17 v tm = tm.put 17 v := pO_put (show p17 = setP (pathOf 17) by kernel_rfl) v tm
theorem w17_t (w : Bool) (tm : Tmps) : wantG o17 w tm = wantE (tmp tm 17) w := wantG_tmp (show o17 = getP (pathOf 17) by kernel_rfl) w tm
def o18 : Tmps → Option EV := Tr.goR (Tr.goR (Tr.goL (Tr.goL (Tr.top))))
def g18 : EF := gO o18
def p18 : PF := Tr.setR (Tr.setR (Tr.setL (Tr.setL (Tr.setTop))))
theorem g18_t (tm : Tmps) : g18 tm = tmp tm 18 := gO_tmp (show o18 = getP (pathOf 18) by kernel_rfl) tm
theorem p18_t (v : Option EV) (tm : Tmps) : p18 v tm = tm.put 18 v := pO_put (show p18 = setP (pathOf 18) by kernel_rfl) v tm
theorem w18_t (w : Bool) (tm : Tmps) : wantG o18 w tm = wantE (tmp tm 18) w := wantG_tmp (show o18 = getP (pathOf 18) by kernel_rfl) w tm
def o19 : Tmps → Option EV := Tr.goL (Tr.goL (Tr.goR (Tr.goL (Tr.top))))
def g19 : EF := gO o19
def p19 : PF := Tr.setL (Tr.setL (Tr.setR (Tr.setL (Tr.setTop))))
theorem g19_t (tm : Tmps) : g19 tm = tmp tm 19 := gO_tmp (show o19 = getP (pathOf 19) by kernel_rfl) tm
theorem p19_t (v : Option EV) (tm : Tmps) : p19 v tm = tm.put 19 v := pO_put (show p19 = setP (pathOf 19) by kernel_rfl) v tm
theorem w19_t (w : Bool) (tm : Tmps) : wantG o19 w tm = wantE (tmp tm 19) w := wantG_tmp (show o19 = getP (pathOf 19) by kernel_rfl) w tm
def o20 : Tmps → Option EV := Tr.goR (Tr.goL (Tr.goR (Tr.goL (Tr.top))))
def g20 : EF := gO o20
def p20 : PF := Tr.setR (Tr.setL (Tr.setR (Tr.setL (Tr.setTop))))
theorem g20_t (tm : Tmps) : g20 tm = tmp tm 20 := gO_tmp (show o20 = getP (pathOf 20) by kernel_rfl) tm
theorem p20_t (v : Option EV) (tm : Tmps) : p20 v tm = tm.put 20 v := pO_put (show p20 = setP (pathOf 20) by kernel_rfl) v tm
theorem w20_t (w : Bool) (tm : Tmps) : wantG o20 w tm = wantE (tmp tm 20) w := wantG_tmp (show o20 = getP (pathOf 20) by kernel_rfl) w tm
def o21 : Tmps → Option EV := Tr.goL (Tr.goR (Tr.goR (Tr.goL (Tr.top))))
def g21 : EF := gO o21
def p21 : PF := Tr.setL (Tr.setR (Tr.setR (Tr.setL (Tr.setTop))))
theorem g21_t (tm : Tmps) : g21 tm = tmp tm 21 := gO_tmp (show o21 = getP (pathOf 21) by kernel_rfl) tm
theorem p21_t (v : Option EV) (tm : Tmps) : p21 v tm = tm.put 21 v := pO_put (show p21 = setP (pathOf 21) by kernel_rfl) v tm
theorem w21_t (w : Bool) (tm : Tmps) : wantG o21 w tm = wantE (tmp tm 21) w := wantG_tmp (show o21 = getP (pathOf 21) by kernel_rfl) w tm
def o22 : Tmps → Option EV := Tr.goR (Tr.goR (Tr.goR (Tr.goL (Tr.top))))
def g22 : EF := gO o22
def p22 : PF := Tr.setR (Tr.setR (Tr.setR (Tr.setL (Tr.setTop))))
theorem g22_t (tm : Tmps) : g22 tm = tmp tm 22 := gO_tmp (show o22 = getP (pathOf 22) by kernel_rfl) tm
theorem p22_t (v : Option EV) (tm : Tmps) : p22 v tm = tm.put 22 v := pO_put (show p22 = setP (pathOf 22) by kernel_rfl) v tm
theorem w22_t (w : Bool) (tm : Tmps) : wantG o22 w tm = wantE (tmp tm 22) w := wantG_tmp (show o22 = getP (pathOf 22) by kernel_rfl) w tm
def o23 : Tmps → Option EV := Tr.goL (Tr.goL (Tr.goL (Tr.goR (Tr.top))))
def g23 : EF := gO o23
def p23 : PF := Tr.setL (Tr.setL (Tr.setL (Tr.setR (Tr.setTop))))
theorem g23_t (tm : Tmps) : g23 tm = tmp tm 23 := gO_tmp (show o23 = getP (pathOf 23) by kernel_rfl) tm
theorem p23_t (v : Option EV) (tm : Tmps) : p23 v tm = tm.put 23 v := pO_put (show p23 = setP (pathOf 23) by kernel_rfl) v tm
theorem w23_t (w : Bool) (tm : Tmps) : wantG o23 w tm = wantE (tmp tm 23) w := wantG_tmp (show o23 = getP (pathOf 23) by kernel_rfl) w tm
def o24 : Tmps → Option EV := Tr.goR (Tr.goL (Tr.goL (Tr.goR (Tr.top))))
def g24 : EF := gO o24
def p24 : PF := Tr.setR (Tr.setL (Tr.setL (Tr.setR (Tr.setTop))))
theorem g24_t (tm : Tmps) : g24 tm = tmp tm 24 := gO_tmp (show o24 = getP (pathOf 24) by kernel_rfl) tm
theorem p24_t (v : Option EV) (tm : Tmps) : p24 v tm = tm.put 24 v := pO_put (show p24 = setP (pathOf 24) by kernel_rfl) v tm
theorem w24_t (w : Bool) (tm : Tmps) : wantG o24 w tm = wantE (tmp tm 24) w := wantG_tmp (show o24 = getP (pathOf 24) by kernel_rfl) w tm
def o25 : Tmps → Option EV := Tr.goL (Tr.goR (Tr.goL (Tr.goR (Tr.top))))
def g25 : EF := gO o25
def p25 : PF := Tr.setL (Tr.setR (Tr.setL (Tr.setR (Tr.setTop))))
theorem g25_t (tm : Tmps) : g25 tm = tmp tm 25 := gO_tmp (show o25 = getP (pathOf 25) by kernel_rfl) tm
theorem p25_t (v : Option EV) (tm : Tmps) : p25 v tm = tm.put 25 v := pO_put (show p25 = setP (pathOf 25) by kernel_rfl) v tm
theorem w25_t (w : Bool) (tm : Tmps) : wantG o25 w tm = wantE (tmp tm 25) w := wantG_tmp (show o25 = getP (pathOf 25) by kernel_rfl) w tm
def o26 : Tmps → Option EV := Tr.goR (Tr.goR (Tr.goL (Tr.goR (Tr.top))))
def g26 : EF := gO o26
def p26 : PF := Tr.setR (Tr.setR (Tr.setL (Tr.setR (Tr.setTop))))
theorem g26_t (tm : Tmps) : g26 tm = tmp tm 26 := gO_tmp (show o26 = getP (pathOf 26) by kernel_rfl) tm
theorem p26_t (v : Option EV) (tm : Tmps) : p26 v tm = tm.put 26 v := pO_put (show p26 = setP (pathOf 26) by kernel_rfl) v tm
theorem w26_t (w : Bool) (tm : Tmps) : wantG o26 w tm = wantE (tmp tm 26) w := wantG_tmp (show o26 = getP (pathOf 26) by kernel_rfl) w tm
def o27 : Tmps → Option EV := Tr.goL (Tr.goL (Tr.goR (Tr.goR (Tr.top))))
def g27 : EF := gO o27
def p27 : PF := Tr.setL (Tr.setL (Tr.setR (Tr.setR (Tr.setTop))))
theorem g27_t (tm : Tmps) : g27 tm = tmp tm 27 := gO_tmp (show o27 = getP (pathOf 27) by kernel_rfl) tm
theorem p27_t (v : Option EV) (tm : Tmps) : p27 v tm = tm.put 27 v := pO_put (show p27 = setP (pathOf 27) by kernel_rfl) v tm
theorem w27_t (w : Bool) (tm : Tmps) : wantG o27 w tm = wantE (tmp tm 27) w := wantG_tmp (show o27 = getP (pathOf 27) by kernel_rfl) w tm
def o28 : Tmps → Option EV := Tr.goR (Tr.goL (Tr.goR (Tr.goR (Tr.top))))
def g28 : EF := gO o28
def p28 : PF := Tr.setR (Tr.setL (Tr.setR (Tr.setR (Tr.setTop))))
theorem g28_t (tm : Tmps) : g28 tm = tmp tm 28 := gO_tmp (show o28 = getP (pathOf 28) by kernel_rfl) tm
theorem p28_t (v : Option EV) (tm : Tmps) : p28 v tm = tm.put 28 v := pO_put (show p28 = setP (pathOf 28) by kernel_rfl) v tm
theorem w28_t (w : Bool) (tm : Tmps) : wantG o28 w tm = wantE (tmp tm 28) w := wantG_tmp (show o28 = getP (pathOf 28) by kernel_rfl) w tm
def o29 : Tmps → Option EV := Tr.goL (Tr.goR (Tr.goR (Tr.goR (Tr.top))))
def g29 : EF := gO o29
def p29 : PF := Tr.setL (Tr.setR (Tr.setR (Tr.setR (Tr.setTop))))
theorem g29_t (tm : Tmps) : g29 tm = tmp tm 29 := gO_tmp (show o29 = getP (pathOf 29) by kernel_rfl) tm
theorem p29_t (v : Option EV) (tm : Tmps) : p29 v tm = tm.put 29 v := pO_put (show p29 = setP (pathOf 29) by kernel_rfl) v tm
theorem w29_t (w : Bool) (tm : Tmps) : wantG o29 w tm = wantE (tmp tm 29) w := wantG_tmp (show o29 = getP (pathOf 29) by kernel_rfl) w tm
def o30 : Tmps → Option EV := Tr.goR (Tr.goR (Tr.goR (Tr.goR (Tr.top))))
def g30 : EF := gO o30
def p30 : PF := Tr.setR (Tr.setR (Tr.setR (Tr.setR (Tr.setTop))))
theorem g30_t (tm : Tmps) : g30 tm = tmp tm 30 := gO_tmp (show o30 = getP (pathOf 30) by kernel_rfl) tm
theorem p30_t (v : Option EV) (tm : Tmps) : p30 v tm = tm.put 30 v := pO_put (show p30 = setP (pathOf 30) by kernel_rfl) v tm
theorem w30_t (w : Bool) (tm : Tmps) : wantG o30 w tm = wantE (tmp tm 30) w := wantG_tmp (show o30 = getP (pathOf 30) by kernel_rfl) w tm
def o31 : Tmps → Option EV := Tr.goL (Tr.goL (Tr.goL (Tr.goL (Tr.goL (Tr.top)))))
def g31 : EF := gO o31
def p31 : PF := Tr.setL (Tr.setL (Tr.setL (Tr.setL (Tr.setL (Tr.setTop)))))
theorem g31_t (tm : Tmps) : g31 tm = tmp tm 31 := gO_tmp (show o31 = getP (pathOf 31) by kernel_rfl) tm
theorem p31_t (v : Option EV) (tm : Tmps) : p31 v tm = tm.put 31 v := pO_put (show p31 = setP (pathOf 31) by kernel_rfl) v tm
theorem w31_t (w : Bool) (tm : Tmps) : wantG o31 w tm = wantE (tmp tm 31) w := wantG_tmp (show o31 = getP (pathOf 31) by kernel_rfl) w tm
/- 32 -/
def o32 : Tmps → Option EV := Tr.goR (Tr.goL (Tr.goL (Tr.goL (Tr.goL (Tr.top)))))
def g32 : EF := gO o32
def p32 : PF := Tr.setR (Tr.setL (Tr.setL (Tr.setL (Tr.setL (Tr.setTop)))))
theorem g32_t (tm : Tmps) : g32 tm = tmp tm 32 := gO_tmp (show o32 = getP (pathOf 32) by kernel_rfl) tm
theorem p32_t (v : Option EV) (tm : Tmps) : p32 v tm = tm.put 32 v := pO_put (show p32 = setP (pathOf 32) by kernel_rfl) v tm
theorem w32_t (w : Bool) (tm : Tmps) : wantG o32 w tm = wantE (tmp tm 32) w := wantG_tmp (show o32 = getP (pathOf 32) by kernel_rfl) w tm
def o33 : Tmps → Option EV := Tr.goL (Tr.goR (Tr.goL (Tr.goL (Tr.goL (Tr.top)))))
def g33 : EF := gO o33
def p33 : PF := Tr.setL (Tr.setR (Tr.setL (Tr.setL (Tr.setL (Tr.setTop)))))
theorem g33_t (tm : Tmps) : g33 tm = tmp tm 33 := gO_tmp (show o33 = getP (pathOf 33) by kernel_rfl) tm
theorem p33_t (v : Option EV) (tm : Tmps) : p33 v tm = tm.put 33 v := pO_put (show p33 = setP (pathOf 33) by kernel_rfl) v tm
theorem w33_t (w : Bool) (tm : Tmps) : wantG o33 w tm = wantE (tmp tm 33) w := wantG_tmp (show o33 = getP (pathOf 33) by kernel_rfl) w tm
def o34 : Tmps → Option EV := Tr.goR (Tr.goR (Tr.goL (Tr.goL (Tr.goL (Tr.top)))))
def g34 : EF := gO o34
def p34 : PF := Tr.setR (Tr.setR (Tr.setL (Tr.setL (Tr.setL (Tr.setTop)))))
theorem g34_t (tm : Tmps) : g34 tm = tmp tm 34 := gO_tmp (show o34 = getP (pathOf 34) by kernel_rfl) tm
theorem p34_t (v : Option EV) (tm : Tmps) : p34 v tm = tm.put 34 v := pO_put (show p34 = setP (pathOf 34) by kernel_rfl) v tm
theorem w34_t (w : Bool) (tm : Tmps) : wantG o34 w tm = wantE (tmp tm 34) w := wantG_tmp (show o34 = getP (pathOf 34) by kernel_rfl) w tm
def o35 : Tmps → Option EV := Tr.goL (Tr.goL (Tr.goR (Tr.goL (Tr.goL (Tr.top)))))
def g35 : EF := gO o35
def p35 : PF := Tr.setL (Tr.setL (Tr.setR (Tr.setL (Tr.setL (Tr.setTop)))))
theorem g35_t (tm : Tmps) : g35 tm = tmp tm 35 := gO_tmp (show o35 = getP (pathOf 35) by kernel_rfl) tm
theorem p35_t (v : Option EV) (tm : Tmps) : p35 v tm = tm.put 35 v := pO_put (show p35 = setP (pathOf 35) by kernel_rfl) v tm
theorem w35_t (w : Bool) (tm : Tmps) : wantG o35 w tm = wantE (tmp tm 35) w := wantG_tmp (show o35 = getP (pathOf 35) by kernel_rfl) w tm
def o36 : Tmps → Option EV := Tr.goR (Tr.goL (Tr.goR (Tr.goL (Tr.goL (Tr.top)))))
def g36 : EF := gO o36
def p36 : PF := Tr.setR (Tr.setL (Tr.setR (Tr.setL (Tr.setL (Tr.setTop)))))
theorem g36_t (tm : Tmps) : g36 tm = tmp tm 36 := gO_tmp (show o36 = getP (pathOf 36) by kernel_rfl) tm
theorem p36_t (v : Option EV) (tm : Tmps) : p36 v tm = tm.put 36 v := pO_put (show p36 = setP (pathOf 36) by kernel_rfl) v tm
theorem w36_t (w : Bool) (tm : Tmps) : wantG o36 w tm = wantE (tmp tm 36) w := wantG_tmp (show o36 = getP (pathOf 36) by kernel_rfl) w tm
def o37 : Tmps → Option EV := Tr.goL (Tr.goR (Tr.goR (Tr.goL (Tr.goL (Tr.top)))))
def g37 : EF := gO o37
def p37 : PF := Tr.setL (Tr.setR (Tr.setR (Tr.setL (Tr.setL (Tr.setTop)))))
theorem g37_t (tm : Tmps) : g37 tm = tmp tm 37 := gO_tmp (show o37 = getP (pathOf 37) by kernel_rfl) tm
theorem p37_t (v : Option EV) (tm : Tmps) : p37 v tm = tm.put 37 v := pO_put (show p37 = setP (pathOf 37) by kernel_rfl) v tm
theorem w37_t (w : Bool) (tm : Tmps) : wantG o37 w tm = wantE (tmp tm 37) w := wantG_tmp (show o37 = getP (pathOf 37) by kernel_rfl) w tm
def o38 : Tmps → Option EV := Tr.goR (Tr.goR (Tr.goR (Tr.goL (Tr.goL (Tr.top)))))
def g38 : EF := gO o38
def p38 : PF := Tr.setR (Tr.setR (Tr.setR (Tr.setL (Tr.setL (Tr.setTop)))))
theorem g38_t (tm : Tmps) : g38 tm = tmp tm 38 := gO_tmp (show o38 = getP (pathOf 38) by kernel_rfl) tm
theorem p38_t (v : Option EV) (tm : Tmps) : p38 v tm = tm.put 38 v := pO_put (show p38 = setP (pathOf 38) by kernel_rfl) v tm
theorem w38_t (w : Bool) (tm : Tmps) : wantG o38 w tm = wantE (tmp tm 38) w := wantG_tmp (show o38 = getP (pathOf 38) by kernel_rfl) w tm
def o39 : Tmps → Option EV := Tr.goL (Tr.goL (Tr.goL (Tr.goR (Tr.goL (Tr.top)))))
def g39 : EF := gO o39
def p39 : PF := Tr.setL (Tr.setL (Tr.setL (Tr.setR (Tr.setL (Tr.setTop)))))
theorem g39_t (tm : Tmps) : g39 tm = tmp tm 39 := gO_tmp (show o39 = getP (pathOf 39) by kernel_rfl) tm
theorem p39_t (v : Option EV) (tm : Tmps) : p39 v tm = tm.put 39 v := pO_put (show p39 = setP (pathOf 39) by kernel_rfl) v tm
theorem w39_t (w : Bool) (tm : Tmps) : wantG o39 w tm = wantE (tmp tm 39) w := wantG_tmp (show o39 = getP (pathOf 39) by kernel_rfl) w tm
def o40 : Tmps → Option EV := Tr.goR (Tr.goL (Tr.goL (Tr.goR (Tr.goL (Tr.top)))))
def g40 : EF := gO o40
def p40 : PF := Tr.setR (Tr.setL (Tr.setL (Tr.setR (Tr.setL (Tr.setTop)))))
theorem g40_t (tm : Tmps) : g40 tm = tmp tm 40 := gO_tmp (show o40 = getP (pathOf 40) by kernel_rfl) tm
theorem p40_t (v : Option EV) (tm : Tmps) : p40 v tm = tm.put 40 v := pO_put (show p40 = setP (pathOf 40) by kernel_rfl) v tm
theorem w40_t (w : Bool) (tm : Tmps) : wantG o40 w tm = wantE (tmp tm 40) w := wantG_tmp (show o40 = getP (pathOf 40) by kernel_rfl) w tm
def o41 : Tmps → Option EV := Tr.goL (Tr.goR (Tr.goL (Tr.goR (Tr.goL (Tr.top)))))
def g41 : EF := gO o41
def p41 : PF := Tr.setL (Tr.setR (Tr.setL (Tr.setR (Tr.setL (Tr.setTop)))))
theorem g41_t (tm : Tmps) : g41 tm = tmp tm 41 := gO_tmp (show o41 = getP (pathOf 41) by kernel_rfl) tm
theorem p41_t (v : Option EV) (tm : Tmps) : p41 v tm = tm.put 41 v := pO_put (show p41 = setP (pathOf 41) by kernel_rfl) v tm
theorem w41_t (w : Bool) (tm : Tmps) : wantG o41 w tm = wantE (tmp tm 41) w := wantG_tmp (show o41 = getP (pathOf 41) by kernel_rfl) w tm
def o42 : Tmps → Option EV := Tr.goR (Tr.goR (Tr.goL (Tr.goR (Tr.goL (Tr.top)))))
def g42 : EF := gO o42
def p42 : PF := Tr.setR (Tr.setR (Tr.setL (Tr.setR (Tr.setL (Tr.setTop)))))
theorem g42_t (tm : Tmps) : g42 tm = tmp tm 42 := gO_tmp (show o42 = getP (pathOf 42) by kernel_rfl) tm
theorem p42_t (v : Option EV) (tm : Tmps) : p42 v tm = tm.put 42 v := pO_put (show p42 = setP (pathOf 42) by kernel_rfl) v tm
theorem w42_t (w : Bool) (tm : Tmps) : wantG o42 w tm = wantE (tmp tm 42) w := wantG_tmp (show o42 = getP (pathOf 42) by kernel_rfl) w tm
def o43 : Tmps → Option EV := Tr.goL (Tr.goL (Tr.goR (Tr.goR (Tr.goL (Tr.top)))))
def g43 : EF := gO o43
def p43 : PF := Tr.setL (Tr.setL (Tr.setR (Tr.setR (Tr.setL (Tr.setTop)))))
theorem g43_t (tm : Tmps) : g43 tm = tmp tm 43 := gO_tmp (show o43 = getP (pathOf 43) by kernel_rfl) tm
theorem p43_t (v : Option EV) (tm : Tmps) : p43 v tm = tm.put 43 v := pO_put (show p43 = setP (pathOf 43) by kernel_rfl) v tm
theorem w43_t (w : Bool) (tm : Tmps) : wantG o43 w tm = wantE (tmp tm 43) w := wantG_tmp (show o43 = getP (pathOf 43) by kernel_rfl) w tm
def o44 : Tmps → Option EV := Tr.goR (Tr.goL (Tr.goR (Tr.goR (Tr.goL (Tr.top)))))
def g44 : EF := gO o44
def p44 : PF := Tr.setR (Tr.setL (Tr.setR (Tr.setR (Tr.setL (Tr.setTop)))))
theorem g44_t (tm : Tmps) : g44 tm = tmp tm 44 := gO_tmp (show o44 = getP (pathOf 44) by kernel_rfl) tm
theorem p44_t (v : Option EV) (tm : Tmps) : p44 v tm = tm.put 44 v := pO_put (show p44 = setP (pathOf 44) by kernel_rfl) v tm
theorem w44_t (w : Bool) (tm : Tmps) : wantG o44 w tm = wantE (tmp tm 44) w := wantG_tmp (show o44 = getP (pathOf 44) by kernel_rfl) w tm
def o45 : Tmps → Option EV := Tr.goL (Tr.goR (Tr.goR (Tr.goR (Tr.goL (Tr.top)))))
def g45 : EF := gO o45
def p45 : PF := Tr.setL (Tr.setR (Tr.setR (Tr.setR (Tr.setL (Tr.setTop)))))
theorem g45_t (tm : Tmps) : g45 tm = tmp tm 45 := gO_tmp (show o45 = getP (pathOf 45) by kernel_rfl) tm
theorem p45_t (v : Option EV) (tm : Tmps) : p45 v tm = tm.put 45 v := pO_put (show p45 = setP (pathOf 45) by kernel_rfl) v tm
theorem w45_t (w : Bool) (tm : Tmps) : wantG o45 w tm = wantE (tmp tm 45) w := wantG_tmp (show o45 = getP (pathOf 45) by kernel_rfl) w tm
def o46 : Tmps → Option EV := Tr.goR (Tr.goR (Tr.goR (Tr.goR (Tr.goL (Tr.top)))))
def g46 : EF := gO o46
def p46 : PF := Tr.setR (Tr.setR (Tr.setR (Tr.setR (Tr.setL (Tr.setTop)))))
theorem g46_t (tm : Tmps) : g46 tm = tmp tm 46 := gO_tmp (show o46 = getP (pathOf 46) by kernel_rfl) tm
theorem p46_t (v : Option EV) (tm : Tmps) : p46 v tm = tm.put 46 v := pO_put (show p46 = setP (pathOf 46) by kernel_rfl) v tm
theorem w46_t (w : Bool) (tm : Tmps) : wantG o46 w tm = wantE (tmp tm 46) w := wantG_tmp (show o46 = getP (pathOf 46) by kernel_rfl) w tm
def o47 : Tmps → Option EV := Tr.goL (Tr.goL (Tr.goL (Tr.goL (Tr.goR (Tr.top)))))
def g47 : EF := gO o47
def p47 : PF := Tr.setL (Tr.setL (Tr.setL (Tr.setL (Tr.setR (Tr.setTop)))))
theorem g47_t (tm : Tmps) : g47 tm = tmp tm 47 := gO_tmp (show o47 = getP (pathOf 47) by kernel_rfl) tm
theorem p47_t (v : Option EV) (tm : Tmps) : p47 v tm = tm.put 47 v := pO_put (show p47 = setP (pathOf 47) by kernel_rfl) v tm
theorem w47_t (w : Bool) (tm : Tmps) : wantG o47 w tm = wantE (tmp tm 47) w := wantG_tmp (show o47 = getP (pathOf 47) by kernel_rfl) w tm
def o48 : Tmps → Option EV := Tr.goR (Tr.goL (Tr.goL (Tr.goL (Tr.goR (Tr.top)))))
def g48 : EF := gO o48
def p48 : PF := Tr.setR (Tr.setL (Tr.setL (Tr.setL (Tr.setR (Tr.setTop)))))
theorem g48_t (tm : Tmps) : g48 tm = tmp tm 48 := gO_tmp (show o48 = getP (pathOf 48) by kernel_rfl) tm
theorem p48_t (v : Option EV) (tm : Tmps) : p48 v tm = tm.put 48 v := pO_put (show p48 = setP (pathOf 48) by kernel_rfl) v tm
theorem w48_t (w : Bool) (tm : Tmps) : wantG o48 w tm = wantE (tmp tm 48) w := wantG_tmp (show o48 = getP (pathOf 48) by kernel_rfl) w tm
def o49 : Tmps → Option EV := Tr.goL (Tr.goR (Tr.goL (Tr.goL (Tr.goR (Tr.top)))))
def g49 : EF := gO o49
def p49 : PF := Tr.setL (Tr.setR (Tr.setL (Tr.setL (Tr.setR (Tr.setTop)))))
theorem g49_t (tm : Tmps) : g49 tm = tmp tm 49 := gO_tmp (show o49 = getP (pathOf 49) by kernel_rfl) tm
theorem p49_t (v : Option EV) (tm : Tmps) : p49 v tm = tm.put 49 v := pO_put (show p49 = setP (pathOf 49) by kernel_rfl) v tm
theorem w49_t (w : Bool) (tm : Tmps) : wantG o49 w tm = wantE (tmp tm 49) w := wantG_tmp (show o49 = getP (pathOf 49) by kernel_rfl) w tm
def o50 : Tmps → Option EV := Tr.goR (Tr.goR (Tr.goL (Tr.goL (Tr.goR (Tr.top)))))
def g50 : EF := gO o50
def p50 : PF := Tr.setR (Tr.setR (Tr.setL (Tr.setL (Tr.setR (Tr.setTop)))))
theorem g50_t (tm : Tmps) : g50 tm = tmp tm 50 := gO_tmp (show o50 = getP (pathOf 50) by kernel_rfl) tm
theorem p50_t (v : Option EV) (tm : Tmps) : p50 v tm = tm.put 50 v := pO_put (show p50 = setP (pathOf 50) by kernel_rfl) v tm
theorem w50_t (w : Bool) (tm : Tmps) : wantG o50 w tm = wantE (tmp tm 50) w := wantG_tmp (show o50 = getP (pathOf 50) by kernel_rfl) w tm
def o51 : Tmps → Option EV := Tr.goL (Tr.goL (Tr.goR (Tr.goL (Tr.goR (Tr.top)))))
def g51 : EF := gO o51
def p51 : PF := Tr.setL (Tr.setL (Tr.setR (Tr.setL (Tr.setR (Tr.setTop)))))
theorem g51_t (tm : Tmps) : g51 tm = tmp tm 51 := gO_tmp (show o51 = getP (pathOf 51) by kernel_rfl) tm
theorem p51_t (v : Option EV) (tm : Tmps) : p51 v tm = tm.put 51 v := pO_put (show p51 = setP (pathOf 51) by kernel_rfl) v tm
theorem w51_t (w : Bool) (tm : Tmps) : wantG o51 w tm = wantE (tmp tm 51) w := wantG_tmp (show o51 = getP (pathOf 51) by kernel_rfl) w tm
def o52 : Tmps → Option EV := Tr.goR (Tr.goL (Tr.goR (Tr.goL (Tr.goR (Tr.top)))))
def g52 : EF := gO o52
def p52 : PF := Tr.setR (Tr.setL (Tr.setR (Tr.setL (Tr.setR (Tr.setTop)))))
theorem g52_t (tm : Tmps) : g52 tm = tmp tm 52 := gO_tmp (show o52 = getP (pathOf 52) by kernel_rfl) tm
theorem p52_t (v : Option EV) (tm : Tmps) : p52 v tm = tm.put 52 v := pO_put (show p52 = setP (pathOf 52) by kernel_rfl) v tm
theorem w52_t (w : Bool) (tm : Tmps) : wantG o52 w tm = wantE (tmp tm 52) w := wantG_tmp (show o52 = getP (pathOf 52) by kernel_rfl) w tm
def o53 : Tmps → Option EV := Tr.goL (Tr.goR (Tr.goR (Tr.goL (Tr.goR (Tr.top)))))
def g53 : EF := gO o53
def p53 : PF := Tr.setL (Tr.setR (Tr.setR (Tr.setL (Tr.setR (Tr.setTop)))))
theorem g53_t (tm : Tmps) : g53 tm = tmp tm 53 := gO_tmp (show o53 = getP (pathOf 53) by kernel_rfl) tm
theorem p53_t (v : Option EV) (tm : Tmps) : p53 v tm = tm.put 53 v := pO_put (show p53 = setP (pathOf 53) by kernel_rfl) v tm
theorem w53_t (w : Bool) (tm : Tmps) : wantG o53 w tm = wantE (tmp tm 53) w := wantG_tmp (show o53 = getP (pathOf 53) by kernel_rfl) w tm
def o54 : Tmps → Option EV := Tr.goR (Tr.goR (Tr.goR (Tr.goL (Tr.goR (Tr.top)))))
def g54 : EF := gO o54
def p54 : PF := Tr.setR (Tr.setR (Tr.setR (Tr.setL (Tr.setR (Tr.setTop)))))
theorem g54_t (tm : Tmps) : g54 tm = tmp tm 54 := gO_tmp (show o54 = getP (pathOf 54) by kernel_rfl) tm
theorem p54_t (v : Option EV) (tm : Tmps) : p54 v tm = tm.put 54 v := pO_put (show p54 = setP (pathOf 54) by kernel_rfl) v tm
theorem w54_t (w : Bool) (tm : Tmps) : wantG o54 w tm = wantE (tmp tm 54) w := wantG_tmp (show o54 = getP (pathOf 54) by kernel_rfl) w tm
def o55 : Tmps → Option EV := Tr.goL (Tr.goL (Tr.goL (Tr.goR (Tr.goR (Tr.top)))))
def g55 : EF := gO o55
def p55 : PF := Tr.setL (Tr.setL (Tr.setL (Tr.setR (Tr.setR (Tr.setTop)))))
theorem g55_t (tm : Tmps) : g55 tm = tmp tm 55 := gO_tmp (show o55 = getP (pathOf 55) by kernel_rfl) tm
theorem p55_t (v : Option EV) (tm : Tmps) : p55 v tm = tm.put 55 v := pO_put (show p55 = setP (pathOf 55) by kernel_rfl) v tm
theorem w55_t (w : Bool) (tm : Tmps) : wantG o55 w tm = wantE (tmp tm 55) w := wantG_tmp (show o55 = getP (pathOf 55) by kernel_rfl) w tm
def o56 : Tmps → Option EV := Tr.goR (Tr.goL (Tr.goL (Tr.goR (Tr.goR (Tr.top)))))
def g56 : EF := gO o56
def p56 : PF := Tr.setR (Tr.setL (Tr.setL (Tr.setR (Tr.setR (Tr.setTop)))))
theorem g56_t (tm : Tmps) : g56 tm = tmp tm 56 := gO_tmp (show o56 = getP (pathOf 56) by kernel_rfl) tm
theorem p56_t (v : Option EV) (tm : Tmps) : p56 v tm = tm.put 56 v := pO_put (show p56 = setP (pathOf 56) by kernel_rfl) v tm
theorem w56_t (w : Bool) (tm : Tmps) : wantG o56 w tm = wantE (tmp tm 56) w := wantG_tmp (show o56 = getP (pathOf 56) by kernel_rfl) w tm
def o57 : Tmps → Option EV := Tr.goL (Tr.goR (Tr.goL (Tr.goR (Tr.goR (Tr.top)))))
def g57 : EF := gO o57
def p57 : PF := Tr.setL (Tr.setR (Tr.setL (Tr.setR (Tr.setR (Tr.setTop)))))
theorem g57_t (tm : Tmps) : g57 tm = tmp tm 57 := gO_tmp (show o57 = getP (pathOf 57) by kernel_rfl) tm
theorem p57_t (v : Option EV) (tm : Tmps) : p57 v tm = tm.put 57 v := pO_put (show p57 = setP (pathOf 57) by kernel_rfl) v tm
theorem w57_t (w : Bool) (tm : Tmps) : wantG o57 w tm = wantE (tmp tm 57) w := wantG_tmp (show o57 = getP (pathOf 57) by kernel_rfl) w tm
def o58 : Tmps → Option EV := Tr.goR (Tr.goR (Tr.goL (Tr.goR (Tr.goR (Tr.top)))))
def g58 : EF := gO o58
def p58 : PF := Tr.setR (Tr.setR (Tr.setL (Tr.setR (Tr.setR (Tr.setTop)))))
theorem g58_t (tm : Tmps) : g58 tm = tmp tm 58 := gO_tmp (show o58 = getP (pathOf 58) by kernel_rfl) tm
theorem p58_t (v : Option EV) (tm : Tmps) : p58 v tm = tm.put 58 v := pO_put (show p58 = setP (pathOf 58) by kernel_rfl) v tm
theorem w58_t (w : Bool) (tm : Tmps) : wantG o58 w tm = wantE (tmp tm 58) w := wantG_tmp (show o58 = getP (pathOf 58) by kernel_rfl) w tm
def o59 : Tmps → Option EV := Tr.goL (Tr.goL (Tr.goR (Tr.goR (Tr.goR (Tr.top)))))
def g59 : EF := gO o59
def p59 : PF := Tr.setL (Tr.setL (Tr.setR (Tr.setR (Tr.setR (Tr.setTop)))))
theorem g59_t (tm : Tmps) : g59 tm = tmp tm 59 := gO_tmp (show o59 = getP (pathOf 59) by kernel_rfl) tm
theorem p59_t (v : Option EV) (tm : Tmps) : p59 v tm = tm.put 59 v := pO_put (show p59 = setP (pathOf 59) by kernel_rfl) v tm
theorem w59_t (w : Bool) (tm : Tmps) : wantG o59 w tm = wantE (tmp tm 59) w := wantG_tmp (show o59 = getP (pathOf 59) by kernel_rfl) w tm
def o60 : Tmps → Option EV := Tr.goR (Tr.goL (Tr.goR (Tr.goR (Tr.goR (Tr.top)))))
def g60 : EF := gO o60
def p60 : PF := Tr.setR (Tr.setL (Tr.setR (Tr.setR (Tr.setR (Tr.setTop)))))
theorem g60_t (tm : Tmps) : g60 tm = tmp tm 60 := gO_tmp (show o60 = getP (pathOf 60) by kernel_rfl) tm
theorem p60_t (v : Option EV) (tm : Tmps) : p60 v tm = tm.put 60 v := pO_put (show p60 = setP (pathOf 60) by kernel_rfl) v tm
theorem w60_t (w : Bool) (tm : Tmps) : wantG o60 w tm = wantE (tmp tm 60) w := wantG_tmp (show o60 = getP (pathOf 60) by kernel_rfl) w tm
def o61 : Tmps → Option EV := Tr.goL (Tr.goR (Tr.goR (Tr.goR (Tr.goR (Tr.top)))))
def g61 : EF := gO o61
def p61 : PF := Tr.setL (Tr.setR (Tr.setR (Tr.setR (Tr.setR (Tr.setTop)))))
theorem g61_t (tm : Tmps) : g61 tm = tmp tm 61 := gO_tmp (show o61 = getP (pathOf 61) by kernel_rfl) tm
theorem p61_t (v : Option EV) (tm : Tmps) : p61 v tm = tm.put 61 v := pO_put (show p61 = setP (pathOf 61) by kernel_rfl) v tm
theorem w61_t (w : Bool) (tm : Tmps) : wantG o61 w tm = wantE (tmp tm 61) w := wantG_tmp (show o61 = getP (pathOf 61) by kernel_rfl) w tm
def o62 : Tmps → Option EV := Tr.goR (Tr.goR (Tr.goR (Tr.goR (Tr.goR (Tr.top)))))
def g62 : EF := gO o62
def p62 : PF := Tr.setR (Tr.setR (Tr.setR (Tr.setR (Tr.setR (Tr.setTop)))))
theorem g62_t (tm : Tmps) : g62 tm = tmp tm 62 := gO_tmp (show o62 = getP (pathOf 62) by kernel_rfl) tm
theorem p62_t (v : Option EV) (tm : Tmps) : p62 v tm = tm.put 62 v := pO_put (show p62 = setP (pathOf 62) by kernel_rfl) v tm
theorem w62_t (w : Bool) (tm : Tmps) : wantG o62 w tm = wantE (tmp tm 62) w := wantG_tmp (show o62 = getP (pathOf 62) by kernel_rfl) w tm
def o63 : Tmps → Option EV := Tr.goL (Tr.goL (Tr.goL (Tr.goL (Tr.goL (Tr.goL (Tr.top))))))
def g63 : EF := gO o63
def p63 : PF := Tr.setL (Tr.setL (Tr.setL (Tr.setL (Tr.setL (Tr.setL (Tr.setTop))))))
theorem g63_t (tm : Tmps) : g63 tm = tmp tm 63 := gO_tmp (show o63 = getP (pathOf 63) by kernel_rfl) tm
theorem p63_t (v : Option EV) (tm : Tmps) : p63 v tm = tm.put 63 v := pO_put (show p63 = setP (pathOf 63) by kernel_rfl) v tm
theorem w63_t (w : Bool) (tm : Tmps) : wantG o63 w tm = wantE (tmp tm 63) w := wantG_tmp (show o63 = getP (pathOf 63) by kernel_rfl) w tm
/- 64 -/
def o64 : Tmps → Option EV := Tr.goR (Tr.goL (Tr.goL (Tr.goL (Tr.goL (Tr.goL (Tr.top))))))
def g64 : EF := gO o64
def p64 : PF := Tr.setR (Tr.setL (Tr.setL (Tr.setL (Tr.setL (Tr.setL (Tr.setTop))))))
theorem g64_t (tm : Tmps) : g64 tm = tmp tm 64 := gO_tmp (show o64 = getP (pathOf 64) by kernel_rfl) tm
theorem p64_t (v : Option EV) (tm : Tmps) : p64 v tm = tm.put 64 v := pO_put (show p64 = setP (pathOf 64) by kernel_rfl) v tm
theorem w64_t (w : Bool) (tm : Tmps) : wantG o64 w tm = wantE (tmp tm 64) w := wantG_tmp (show o64 = getP (pathOf 64) by kernel_rfl) w tm
def o65 : Tmps → Option EV := Tr.goL (Tr.goR (Tr.goL (Tr.goL (Tr.goL (Tr.goL (Tr.top))))))
def g65 : EF := gO o65
def p65 : PF := Tr.setL (Tr.setR (Tr.setL (Tr.setL (Tr.setL (Tr.setL (Tr.setTop))))))
theorem g65_t (tm : Tmps) : g65 tm = tmp tm 65 := gO_tmp (show o65 = getP (pathOf 65) by kernel_rfl) tm
theorem p65_t (v : Option EV) (tm : Tmps) : p65 v tm = tm.put 65 v := pO_put (show p65 = setP (pathOf 65) by kernel_rfl) v tm
theorem w65_t (w : Bool) (tm : Tmps) : wantG o65 w tm = wantE (tmp tm 65) w := wantG_tmp (show o65 = getP (pathOf 65) by kernel_rfl) w tm
def o66 : Tmps → Option EV := Tr.goR (Tr.goR (Tr.goL (Tr.goL (Tr.goL (Tr.goL (Tr.top))))))
def g66 : EF := gO o66
def p66 : PF := Tr.setR (Tr.setR (Tr.setL (Tr.setL (Tr.setL (Tr.setL (Tr.setTop))))))
theorem g66_t (tm : Tmps) : g66 tm = tmp tm 66 := gO_tmp (show o66 = getP (pathOf 66) by kernel_rfl) tm
theorem p66_t (v : Option EV) (tm : Tmps) : p66 v tm = tm.put 66 v := pO_put (show p66 = setP (pathOf 66) by kernel_rfl) v tm
theorem w66_t (w : Bool) (tm : Tmps) : wantG o66 w tm = wantE (tmp tm 66) w := wantG_tmp (show o66 = getP (pathOf 66) by kernel_rfl) w tm
def o67 : Tmps → Option EV := Tr.goL (Tr.goL (Tr.goR (Tr.goL (Tr.goL (Tr.goL (Tr.top))))))
def g67 : EF := gO o67
def p67 : PF := Tr.setL (Tr.setL (Tr.setR (Tr.setL (Tr.setL (Tr.setL (Tr.setTop))))))
theorem g67_t (tm : Tmps) : g67 tm = tmp tm 67 := gO_tmp (show o67 = getP (pathOf 67) by kernel_rfl) tm
theorem p67_t (v : Option EV) (tm : Tmps) : p67 v tm = tm.put 67 v := pO_put (show p67 = setP (pathOf 67) by kernel_rfl) v tm
theorem w67_t (w : Bool) (tm : Tmps) : wantG o67 w tm = wantE (tmp tm 67) w := wantG_tmp (show o67 = getP (pathOf 67) by kernel_rfl) w tm
def o68 : Tmps → Option EV := Tr.goR (Tr.goL (Tr.goR (Tr.goL (Tr.goL (Tr.goL (Tr.top))))))
def g68 : EF := gO o68
def p68 : PF := Tr.setR (Tr.setL (Tr.setR (Tr.setL (Tr.setL (Tr.setL (Tr.setTop))))))
theorem g68_t (tm : Tmps) : g68 tm = tmp tm 68 := gO_tmp (show o68 = getP (pathOf 68) by kernel_rfl) tm
theorem p68_t (v : Option EV) (tm : Tmps) : p68 v tm = tm.put 68 v := pO_put (show p68 = setP (pathOf 68) by kernel_rfl) v tm
theorem w68_t (w : Bool) (tm : Tmps) : wantG o68 w tm = wantE (tmp tm 68) w := wantG_tmp (show o68 = getP (pathOf 68) by kernel_rfl) w tm
def o69 : Tmps → Option EV := Tr.goL (Tr.goR (Tr.goR (Tr.goL (Tr.goL (Tr.goL (Tr.top))))))
def g69 : EF := gO o69
def p69 : PF := Tr.setL (Tr.setR (Tr.setR (Tr.setL (Tr.setL (Tr.setL (Tr.setTop))))))
theorem g69_t (tm : Tmps) : g69 tm = tmp tm 69 := gO_tmp (show o69 = getP (pathOf 69) by kernel_rfl) tm
theorem p69_t (v : Option EV) (tm : Tmps) : p69 v tm = tm.put 69 v := pO_put (show p69 = setP (pathOf 69) by kernel_rfl) v tm
theorem w69_t (w : Bool) (tm : Tmps) : wantG o69 w tm = wantE (tmp tm 69) w := wantG_tmp (show o69 = getP (pathOf 69) by kernel_rfl) w tm
def o70 : Tmps → Option EV := Tr.goR (Tr.goR (Tr.goR (Tr.goL (Tr.goL (Tr.goL (Tr.top))))))
def g70 : EF := gO o70
def p70 : PF := Tr.setR (Tr.setR (Tr.setR (Tr.setL (Tr.setL (Tr.setL (Tr.setTop))))))
theorem g70_t (tm : Tmps) : g70 tm = tmp tm 70 := gO_tmp (show o70 = getP (pathOf 70) by kernel_rfl) tm
theorem p70_t (v : Option EV) (tm : Tmps) : p70 v tm = tm.put 70 v := pO_put (show p70 = setP (pathOf 70) by kernel_rfl) v tm
theorem w70_t (w : Bool) (tm : Tmps) : wantG o70 w tm = wantE (tmp tm 70) w := wantG_tmp (show o70 = getP (pathOf 70) by kernel_rfl) w tm
def o71 : Tmps → Option EV := Tr.goL (Tr.goL (Tr.goL (Tr.goR (Tr.goL (Tr.goL (Tr.top))))))
def g71 : EF := gO o71
def p71 : PF := Tr.setL (Tr.setL (Tr.setL (Tr.setR (Tr.setL (Tr.setL (Tr.setTop))))))
theorem g71_t (tm : Tmps) : g71 tm = tmp tm 71 := gO_tmp (show o71 = getP (pathOf 71) by kernel_rfl) tm
theorem p71_t (v : Option EV) (tm : Tmps) : p71 v tm = tm.put 71 v := pO_put (show p71 = setP (pathOf 71) by kernel_rfl) v tm
theorem w71_t (w : Bool) (tm : Tmps) : wantG o71 w tm = wantE (tmp tm 71) w := wantG_tmp (show o71 = getP (pathOf 71) by kernel_rfl) w tm
def o72 : Tmps → Option EV := Tr.goR (Tr.goL (Tr.goL (Tr.goR (Tr.goL (Tr.goL (Tr.top))))))
def g72 : EF := gO o72
def p72 : PF := Tr.setR (Tr.setL (Tr.setL (Tr.setR (Tr.setL (Tr.setL (Tr.setTop))))))
theorem g72_t (tm : Tmps) : g72 tm = tmp tm 72 := gO_tmp (show o72 = getP (pathOf 72) by kernel_rfl) tm
theorem p72_t (v : Option EV) (tm : Tmps) : p72 v tm = tm.put 72 v := pO_put (show p72 = setP (pathOf 72) by kernel_rfl) v tm
theorem w72_t (w : Bool) (tm : Tmps) : wantG o72 w tm = wantE (tmp tm 72) w := wantG_tmp (show o72 = getP (pathOf 72) by kernel_rfl) w tm
def o73 : Tmps → Option EV := Tr.goL (Tr.goR (Tr.goL (Tr.goR (Tr.goL (Tr.goL (Tr.top))))))
def g73 : EF := gO o73
def p73 : PF := Tr.setL (Tr.setR (Tr.setL (Tr.setR (Tr.setL (Tr.setL (Tr.setTop))))))
theorem g73_t (tm : Tmps) : g73 tm = tmp tm 73 := gO_tmp (show o73 = getP (pathOf 73) by kernel_rfl) tm
theorem p73_t (v : Option EV) (tm : Tmps) : p73 v tm = tm.put 73 v := pO_put (show p73 = setP (pathOf 73) by kernel_rfl) v tm
theorem w73_t (w : Bool) (tm : Tmps) : wantG o73 w tm = wantE (tmp tm 73) w := wantG_tmp (show o73 = getP (pathOf 73) by kernel_rfl) w tm
def o74 : Tmps → Option EV := Tr.goR (Tr.goR (Tr.goL (Tr.goR (Tr.goL (Tr.goL (Tr.top))))))
def g74 : EF := gO o74
def p74 : PF := Tr.setR (Tr.setR (Tr.setL (Tr.setR (Tr.setL (Tr.setL (Tr.setTop))))))
theorem g74_t (tm : Tmps) : g74 tm = tmp tm 74 := gO_tmp (show o74 = getP (pathOf 74) by kernel_rfl) tm
theorem p74_t (v : Option EV) (tm : Tmps) : p74 v tm = tm.put 74 v := pO_put (show p74 = setP (pathOf 74) by kernel_rfl) v tm
theorem w74_t (w : Bool) (tm : Tmps) : wantG o74 w tm = wantE (tmp tm 74) w := wantG_tmp (show o74 = getP (pathOf 74) by kernel_rfl) w tm
def o75 : Tmps → Option EV := Tr.goL (Tr.goL (Tr.goR (Tr.goR (Tr.goL (Tr.goL (Tr.top))))))
def g75 : EF := gO o75
def p75 : PF := Tr.setL (Tr.setL (Tr.setR (Tr.setR (Tr.setL (Tr.setL (Tr.setTop))))))
theorem g75_t (tm : Tmps) : g75 tm = tmp tm 75 := gO_tmp (show o75 = getP (pathOf 75) by kernel_rfl) tm
theorem p75_t (v : Option EV) (tm : Tmps) : p75 v tm = tm.put 75 v := pO_put (show p75 = setP (pathOf 75) by kernel_rfl) v tm
theorem w75_t (w : Bool) (tm : Tmps) : wantG o75 w tm = wantE (tmp tm 75) w := wantG_tmp (show o75 = getP (pathOf 75) by kernel_rfl) w tm
def o76 : Tmps → Option EV := Tr.goR (Tr.goL (Tr.goR (Tr.goR (Tr.goL (Tr.goL (Tr.top))))))
def g76 : EF := gO o76
def p76 : PF := Tr.setR (Tr.setL (Tr.setR (Tr.setR (Tr.setL (Tr.setL (Tr.setTop))))))
theorem g76_t (tm : Tmps) : g76 tm = tmp tm 76 := gO_tmp (show o76 = getP (pathOf 76) by kernel_rfl) tm
theorem p76_t (v : Option EV) (tm : Tmps) : p76 v tm = tm.put 76 v := pO_put (show p76 = setP (pathOf 76) by kernel_rfl) v tm
theorem w76_t (w : Bool) (tm : Tmps) : wantG o76 w tm = wantE (tmp tm 76) w := wantG_tmp (show o76 = getP (pathOf 76) by kernel_rfl) w tm
def o77 : Tmps → Option EV := Tr.goL (Tr.goR (Tr.goR (Tr.goR (Tr.goL (Tr.goL (Tr.top))))))
def g77 : EF := gO o77
def p77 : PF := Tr.setL (Tr.setR (Tr.setR (Tr.setR (Tr.setL (Tr.setL (Tr.setTop))))))
theorem g77_t (tm : Tmps) : g77 tm = tmp tm 77 := gO_tmp (show o77 = getP (pathOf 77) by kernel_rfl) tm
theorem p77_t (v : Option EV) (tm : Tmps) : p77 v tm = tm.put 77 v := pO_put (show p77 = setP (pathOf 77) by kernel_rfl) v tm
theorem w77_t (w : Bool) (tm : Tmps) : wantG o77 w tm = wantE (tmp tm 77) w := wantG_tmp (show o77 = getP (pathOf 77) by kernel_rfl) w tm
def o78 : Tmps → Option EV := Tr.goR (Tr.goR (Tr.goR (Tr.goR (Tr.goL (Tr.goL (Tr.top))))))
def g78 : EF := gO o78
def p78 : PF := Tr.setR (Tr.setR (Tr.setR (Tr.setR (Tr.setL (Tr.setL (Tr.setTop))))))
theorem g78_t (tm : Tmps) : g78 tm = tmp tm 78 := gO_tmp (show o78 = getP (pathOf 78) by kernel_rfl) tm
theorem p78_t (v : Option EV) (tm : Tmps) : p78 v tm = tm.put 78 v := pO_put (show p78 = setP (pathOf 78) by kernel_rfl) v tm
theorem w78_t (w : Bool) (tm : Tmps) : wantG o78 w tm = wantE (tmp tm 78) w := wantG_tmp (show o78 = getP (pathOf 78) by kernel_rfl) w tm
def o79 : Tmps → Option EV := Tr.goL (Tr.goL (Tr.goL (Tr.goL (Tr.goR (Tr.goL (Tr.top))))))
def g79 : EF := gO o79
def p79 : PF := Tr.setL (Tr.setL (Tr.setL (Tr.setL (Tr.setR (Tr.setL (Tr.setTop))))))
theorem g79_t (tm : Tmps) : g79 tm = tmp tm 79 := gO_tmp (show o79 = getP (pathOf 79) by kernel_rfl) tm
theorem p79_t (v : Option EV) (tm : Tmps) : p79 v tm = tm.put 79 v := pO_put (show p79 = setP (pathOf 79) by kernel_rfl) v tm
theorem w79_t (w : Bool) (tm : Tmps) : wantG o79 w tm = wantE (tmp tm 79) w := wantG_tmp (show o79 = getP (pathOf 79) by kernel_rfl) w tm
def o80 : Tmps → Option EV := Tr.goR (Tr.goL (Tr.goL (Tr.goL (Tr.goR (Tr.goL (Tr.top))))))
def g80 : EF := gO o80
def p80 : PF := Tr.setR (Tr.setL (Tr.setL (Tr.setL (Tr.setR (Tr.setL (Tr.setTop))))))
theorem g80_t (tm : Tmps) : g80 tm = tmp tm 80 := gO_tmp (show o80 = getP (pathOf 80) by kernel_rfl) tm
theorem p80_t (v : Option EV) (tm : Tmps) : p80 v tm = tm.put 80 v := pO_put (show p80 = setP (pathOf 80) by kernel_rfl) v tm
theorem w80_t (w : Bool) (tm : Tmps) : wantG o80 w tm = wantE (tmp tm 80) w := wantG_tmp (show o80 = getP (pathOf 80) by kernel_rfl) w tm
def o81 : Tmps → Option EV := Tr.goL (Tr.goR (Tr.goL (Tr.goL (Tr.goR (Tr.goL (Tr.top))))))
def g81 : EF := gO o81
def p81 : PF := Tr.setL (Tr.setR (Tr.setL (Tr.setL (Tr.setR (Tr.setL (Tr.setTop))))))
theorem g81_t (tm : Tmps) : g81 tm = tmp tm 81 := gO_tmp (show o81 = getP (pathOf 81) by kernel_rfl) tm
theorem p81_t (v : Option EV) (tm : Tmps) : p81 v tm = tm.put 81 v := pO_put (show p81 = setP (pathOf 81) by kernel_rfl) v tm
theorem w81_t (w : Bool) (tm : Tmps) : wantG o81 w tm = wantE (tmp tm 81) w := wantG_tmp (show o81 = getP (pathOf 81) by kernel_rfl) w tm
def o82 : Tmps → Option EV := Tr.goR (Tr.goR (Tr.goL (Tr.goL (Tr.goR (Tr.goL (Tr.top))))))
def g82 : EF := gO o82
def p82 : PF := Tr.setR (Tr.setR (Tr.setL (Tr.setL (Tr.setR (Tr.setL (Tr.setTop))))))
theorem g82_t (tm : Tmps) : g82 tm = tmp tm 82 := gO_tmp (show o82 = getP (pathOf 82) by kernel_rfl) tm
theorem p82_t (v : Option EV) (tm : Tmps) : p82 v tm = tm.put 82 v := pO_put (show p82 = setP (pathOf 82) by kernel_rfl) v tm
theorem w82_t (w : Bool) (tm : Tmps) : wantG o82 w tm = wantE (tmp tm 82) w := wantG_tmp (show o82 = getP (pathOf 82) by kernel_rfl) w tm
def o83 : Tmps → Option EV := Tr.goL (Tr.goL (Tr.goR (Tr.goL (Tr.goR (Tr.goL (Tr.top))))))
def g83 : EF := gO o83
def p83 : PF := Tr.setL (Tr.setL (Tr.setR (Tr.setL (Tr.setR (Tr.setL (Tr.setTop))))))
theorem g83_t (tm : Tmps) : g83 tm = tmp tm 83 := gO_tmp (show o83 = getP (pathOf 83) by kernel_rfl) tm
theorem p83_t (v : Option EV) (tm : Tmps) : p83 v tm = tm.put 83 v := pO_put (show p83 = setP (pathOf 83) by kernel_rfl) v tm
theorem w83_t (w : Bool) (tm : Tmps) : wantG o83 w tm = wantE (tmp tm 83) w := wantG_tmp (show o83 = getP (pathOf 83) by kernel_rfl) w tm
def o84 : Tmps → Option EV := Tr.goR (Tr.goL (Tr.goR (Tr.goL (Tr.goR (Tr.goL (Tr.top))))))
def g84 : EF := gO o84
def p84 : PF := Tr.setR (Tr.setL (Tr.setR (Tr.setL (Tr.setR (Tr.setL (Tr.setTop))))))
theorem g84_t (tm : Tmps) : g84 tm = tmp tm 84 := gO_tmp (show o84 = getP (pathOf 84) by kernel_rfl) tm
theorem p84_t (v : Option EV) (tm : Tmps) : p84 v tm = tm.put 84 v := pO_put (show p84 = setP (pathOf 84) by kernel_rfl) v tm
theorem w84_t (w : Bool) (tm : Tmps) : wantG o84 w tm = wantE (tmp tm 84) w := wantG_tmp (show o84 = getP (pathOf 84) by kernel_rfl) w tm
def o85 : Tmps → Option EV := Tr.goL (Tr.goR (Tr.goR (Tr.goL (Tr.goR (Tr.goL (Tr.top))))))
def g85 : EF := gO o85
def p85 : PF := Tr.setL (Tr.setR (Tr.setR (Tr.setL (Tr.setR (Tr.setL (Tr.setTop))))))
theorem g85_t (tm : Tmps) : g85 tm = tmp tm 85 := gO_tmp (show o85 = getP (pathOf 85) by kernel_rfl) tm
theorem p85_t (v : Option EV) (tm : Tmps) : p85 v tm = tm.put 85 v := pO_put (show p85 = setP (pathOf 85) by kernel_rfl) v tm
theorem w85_t (w : Bool) (tm : Tmps) : wantG o85 w tm = wantE (tmp tm 85) w := wantG_tmp (show o85 = getP (pathOf 85) by kernel_rfl) w tm
def o86 : Tmps → Option EV := Tr.goR (Tr.goR (Tr.goR (Tr.goL (Tr.goR (Tr.goL (Tr.top))))))
def g86 : EF := gO o86
def p86 : PF := Tr.setR (Tr.setR (Tr.setR (Tr.setL (Tr.setR (Tr.setL (Tr.setTop))))))
theorem g86_t (tm : Tmps) : g86 tm = tmp tm 86 := gO_tmp (show o86 = getP (pathOf 86) by kernel_rfl) tm
theorem p86_t (v : Option EV) (tm : Tmps) : p86 v tm = tm.put 86 v := pO_put (show p86 = setP (pathOf 86) by kernel_rfl) v tm
theorem w86_t (w : Bool) (tm : Tmps) : wantG o86 w tm = wantE (tmp tm 86) w := wantG_tmp (show o86 = getP (pathOf 86) by kernel_rfl) w tm
def o87 : Tmps → Option EV := Tr.goL (Tr.goL (Tr.goL (Tr.goR (Tr.goR (Tr.goL (Tr.top))))))
def g87 : EF := gO o87
def p87 : PF := Tr.setL (Tr.setL (Tr.setL (Tr.setR (Tr.setR (Tr.setL (Tr.setTop))))))
theorem g87_t (tm : Tmps) : g87 tm = tmp tm 87 := gO_tmp (show o87 = getP (pathOf 87) by kernel_rfl) tm
theorem p87_t (v : Option EV) (tm : Tmps) : p87 v tm = tm.put 87 v := pO_put (show p87 = setP (pathOf 87) by kernel_rfl) v tm
theorem w87_t (w : Bool) (tm : Tmps) : wantG o87 w tm = wantE (tmp tm 87) w := wantG_tmp (show o87 = getP (pathOf 87) by kernel_rfl) w tm
def o88 : Tmps → Option EV := Tr.goR (Tr.goL (Tr.goL (Tr.goR (Tr.goR (Tr.goL (Tr.top))))))
def g88 : EF := gO o88
def p88 : PF := Tr.setR (Tr.setL (Tr.setL (Tr.setR (Tr.setR (Tr.setL (Tr.setTop))))))
theorem g88_t (tm : Tmps) : g88 tm = tmp tm 88 := gO_tmp (show o88 = getP (pathOf 88) by kernel_rfl) tm
theorem p88_t (v : Option EV) (tm : Tmps) : p88 v tm = tm.put 88 v := pO_put (show p88 = setP (pathOf 88) by kernel_rfl) v tm
theorem w88_t (w : Bool) (tm : Tmps) : wantG o88 w tm = wantE (tmp tm 88) w := wantG_tmp (show o88 = getP (pathOf 88) by kernel_rfl) w tm
def o89 : Tmps → Option EV := Tr.goL (Tr.goR (Tr.goL (Tr.goR (Tr.goR (Tr.goL (Tr.top))))))
def g89 : EF := gO o89
def p89 : PF := Tr.setL (Tr.setR (Tr.setL (Tr.setR (Tr.setR (Tr.setL (Tr.setTop))))))
theorem g89_t (tm : Tmps) : g89 tm = tmp tm 89 := gO_tmp (show o89 = getP (pathOf 89) by kernel_rfl) tm
theorem p89_t (v : Option EV) (tm : Tmps) : p89 v tm = tm.put 89 v := pO_put (show p89 = setP (pathOf 89) by kernel_rfl) v tm
theorem w89_t (w : Bool) (tm : Tmps) : wantG o89 w tm = wantE (tmp tm 89) w := wantG_tmp (show o89 = getP (pathOf 89) by kernel_rfl) w tm
def o90 : Tmps → Option EV := Tr.goR (Tr.goR (Tr.goL (Tr.goR (Tr.goR (Tr.goL (Tr.top))))))
def g90 : EF := gO o90
def p90 : PF := Tr.setR (Tr.setR (Tr.setL (Tr.setR (Tr.setR (Tr.setL (Tr.setTop))))))
theorem g90_t (tm : Tmps) : g90 tm = tmp tm 90 := gO_tmp (show o90 = getP (pathOf 90) by kernel_rfl) tm
theorem p90_t (v : Option EV) (tm : Tmps) : p90 v tm = tm.put 90 v := pO_put (show p90 = setP (pathOf 90) by kernel_rfl) v tm
theorem w90_t (w : Bool) (tm : Tmps) : wantG o90 w tm = wantE (tmp tm 90) w := wantG_tmp (show o90 = getP (pathOf 90) by kernel_rfl) w tm
def o91 : Tmps → Option EV := Tr.goL (Tr.goL (Tr.goR (Tr.goR (Tr.goR (Tr.goL (Tr.top))))))
def g91 : EF := gO o91
def p91 : PF := Tr.setL (Tr.setL (Tr.setR (Tr.setR (Tr.setR (Tr.setL (Tr.setTop))))))
theorem g91_t (tm : Tmps) : g91 tm = tmp tm 91 := gO_tmp (show o91 = getP (pathOf 91) by kernel_rfl) tm
theorem p91_t (v : Option EV) (tm : Tmps) : p91 v tm = tm.put 91 v := pO_put (show p91 = setP (pathOf 91) by kernel_rfl) v tm
theorem w91_t (w : Bool) (tm : Tmps) : wantG o91 w tm = wantE (tmp tm 91) w := wantG_tmp (show o91 = getP (pathOf 91) by kernel_rfl) w tm
def o92 : Tmps → Option EV := Tr.goR (Tr.goL (Tr.goR (Tr.goR (Tr.goR (Tr.goL (Tr.top))))))
def g92 : EF := gO o92
def p92 : PF := Tr.setR (Tr.setL (Tr.setR (Tr.setR (Tr.setR (Tr.setL (Tr.setTop))))))
theorem g92_t (tm : Tmps) : g92 tm = tmp tm 92 := gO_tmp (show o92 = getP (pathOf 92) by kernel_rfl) tm
theorem p92_t (v : Option EV) (tm : Tmps) : p92 v tm = tm.put 92 v := pO_put (show p92 = setP (pathOf 92) by kernel_rfl) v tm
theorem w92_t (w : Bool) (tm : Tmps) : wantG o92 w tm = wantE (tmp tm 92) w := wantG_tmp (show o92 = getP (pathOf 92) by kernel_rfl) w tm
def o93 : Tmps → Option EV := Tr.goL (Tr.goR (Tr.goR (Tr.goR (Tr.goR (Tr.goL (Tr.top))))))
def g93 : EF := gO o93
def p93 : PF := Tr.setL (Tr.setR (Tr.setR (Tr.setR (Tr.setR (Tr.setL (Tr.setTop))))))
theorem g93_t (tm : Tmps) : g93 tm = tmp tm 93 := gO_tmp (show o93 = getP (pathOf 93) by kernel_rfl) tm
theorem p93_t (v : Option EV) (tm : Tmps) : p93 v tm = tm.put 93 v := pO_put (show p93 = setP (pathOf 93) by kernel_rfl) v tm
theorem w93_t (w : Bool) (tm : Tmps) : wantG o93 w tm = wantE (tmp tm 93) w := wantG_tmp (show o93 = getP (pathOf 93) by kernel_rfl) w tm
def o94 : Tmps → Option EV := Tr.goR (Tr.goR (Tr.goR (Tr.goR (Tr.goR (Tr.goL (Tr.top))))))
def g94 : EF := gO o94
def p94 : PF := Tr.setR (Tr.setR (Tr.setR (Tr.setR (Tr.setR (Tr.setL (Tr.setTop))))))
theorem g94_t (tm : Tmps) : g94 tm = tmp tm 94 := gO_tmp (show o94 = getP (pathOf 94) by kernel_rfl) tm
theorem p94_t (v : Option EV) (tm : Tmps) : p94 v tm = tm.put 94 v := pO_put (show p94 = setP (pathOf 94) by kernel_rfl) v tm
theorem w94_t (w : Bool) (tm : Tmps) : wantG o94 w tm = wantE (tmp tm 94) w := wantG_tmp (show o94 = getP (pathOf 94) by kernel_rfl) w tm
def o95 : Tmps → Option EV := Tr.goL (Tr.goL (Tr.goL (Tr.goL (Tr.goL (Tr.goR (Tr.top))))))
def g95 : EF := gO o95
def p95 : PF := Tr.setL (Tr.setL (Tr.setL (Tr.setL (Tr.setL (Tr.setR (Tr.setTop))))))
theorem g95_t (tm : Tmps) : g95 tm = tmp tm 95 := gO_tmp (show o95 = getP (pathOf 95) by kernel_rfl) tm
theorem p95_t (v : Option EV) (tm : Tmps) : p95 v tm = tm.put 95 v := pO_put (show p95 = setP (pathOf 95) by kernel_rfl) v tm
theorem w95_t (w : Bool) (tm : Tmps) : wantG o95 w tm = wantE (tmp tm 95) w := wantG_tmp (show o95 = getP (pathOf 95) by kernel_rfl) w tm
/- 96 -/
def o96 : Tmps → Option EV := Tr.goR (Tr.goL (Tr.goL (Tr.goL (Tr.goL (Tr.goR (Tr.top))))))
def g96 : EF := gO o96
def p96 : PF := Tr.setR (Tr.setL (Tr.setL (Tr.setL (Tr.setL (Tr.setR (Tr.setTop))))))
theorem g96_t (tm : Tmps) : g96 tm = tmp tm 96 := gO_tmp (show o96 = getP (pathOf 96) by kernel_rfl) tm
theorem p96_t (v : Option EV) (tm : Tmps) : p96 v tm = tm.put 96 v := pO_put (show p96 = setP (pathOf 96) by kernel_rfl) v tm
theorem w96_t (w : Bool) (tm : Tmps) : wantG o96 w tm = wantE (tmp tm 96) w := wantG_tmp (show o96 = getP (pathOf 96) by kernel_rfl) w tm
def o97 : Tmps → Option EV := Tr.goL (Tr.goR (Tr.goL (Tr.goL (Tr.goL (Tr.goR (Tr.top))))))
def g97 : EF := gO o97
def p97 : PF := Tr.setL (Tr.setR (Tr.setL (Tr.setL (Tr.setL (Tr.setR (Tr.setTop))))))
theorem g97_t (tm : Tmps) : g97 tm = tmp tm 97 := gO_tmp (show o97 = getP (pathOf 97) by kernel_rfl) tm
theorem p97_t (v : Option EV) (tm : Tmps) : p97 v tm = tm.put 97 v := pO_put (show p97 = setP (pathOf 97) by kernel_rfl) v tm
theorem w97_t (w : Bool) (tm : Tmps) : wantG o97 w tm = wantE (tmp tm 97) w := wantG_tmp (show o97 = getP (pathOf 97) by kernel_rfl) w tm
def o98 : Tmps → Option EV := Tr.goR (Tr.goR (Tr.goL (Tr.goL (Tr.goL (Tr.goR (Tr.top))))))
def g98 : EF := gO o98
def p98 : PF := Tr.setR (Tr.setR (Tr.setL (Tr.setL (Tr.setL (Tr.setR (Tr.setTop))))))
theorem g98_t (tm : Tmps) : g98 tm = tmp tm 98 := gO_tmp (show o98 = getP (pathOf 98) by kernel_rfl) tm
theorem p98_t (v : Option EV) (tm : Tmps) : p98 v tm = tm.put 98 v := pO_put (show p98 = setP (pathOf 98) by kernel_rfl) v tm
theorem w98_t (w : Bool) (tm : Tmps) : wantG o98 w tm = wantE (tmp tm 98) w := wantG_tmp (show o98 = getP (pathOf 98) by kernel_rfl) w tm
def o99 : Tmps → Option EV := Tr.goL (Tr.goL (Tr.goR (Tr.goL (Tr.goL (Tr.goR (Tr.top))))))
def g99 : EF := gO o99
def p99 : PF := Tr.setL (Tr.setL (Tr.setR (Tr.setL (Tr.setL (Tr.setR (Tr.setTop))))))
theorem g99_t (tm : Tmps) : g99 tm = tmp tm 99 := gO_tmp (show o99 = getP (pathOf 99) by kernel_rfl) tm
theorem p99_t (v : Option EV) (tm : Tmps) : p99 v tm = tm.put 99 v := pO_put (show p99 = setP (pathOf 99) by kernel_rfl) v tm
theorem w99_t (w : Bool) (tm : Tmps) : wantG o99 w tm = wantE (tmp tm 99) w := wantG_tmp (show o99 = getP (pathOf 99) by kernel_rfl) w tm
def o100 : Tmps → Option EV := Tr.goR (Tr.goL (Tr.goR (Tr.goL (Tr.goL (Tr.goR (Tr.top))))))
def g100 : EF := gO o100
def p100 : PF := Tr.setR (Tr.setL (Tr.setR (Tr.setL (Tr.setL (Tr.setR (Tr.setTop))))))
theorem g100_t (tm : Tmps) : g100 tm = tmp tm 100 := gO_tmp (show o100 = getP (pathOf 100) by kernel_rfl) tm
theorem p100_t (v : Option EV) (tm : Tmps) : p100 v tm = tm.put 100 v := pO_put (show p100 = setP (pathOf 100) by kernel_rfl) v tm
theorem w100_t (w : Bool) (tm : Tmps) : wantG o100 w tm = wantE (tmp tm 100) w := wantG_tmp (show o100 = getP (pathOf 100) by kernel_rfl) w tm
def o101 : Tmps → Option EV := Tr.goL (Tr.goR (Tr.goR (Tr.goL (Tr.goL (Tr.goR (Tr.top))))))
def g101 : EF := gO o101
def p101 : PF := Tr.setL (Tr.setR (Tr.setR (Tr.setL (Tr.setL (Tr.setR (Tr.setTop))))))
theorem g101_t (tm : Tmps) : g101 tm = tmp tm 101 := gO_tmp (show o101 = getP (pathOf 101) by kernel_rfl) tm
theorem p101_t (v : Option EV) (tm : Tmps) : p101 v tm = tm.put 101 v := pO_put (show p101 = setP (pathOf 101) by kernel_rfl) v tm
theorem w101_t (w : Bool) (tm : Tmps) : wantG o101 w tm = wantE (tmp tm 101) w := wantG_tmp (show o101 = getP (pathOf 101) by kernel_rfl) w tm
def o102 : Tmps → Option EV := Tr.goR (Tr.goR (Tr.goR (Tr.goL (Tr.goL (Tr.goR (Tr.top))))))
def g102 : EF := gO o102
def p102 : PF := Tr.setR (Tr.setR (Tr.setR (Tr.setL (Tr.setL (Tr.setR (Tr.setTop))))))
theorem g102_t (tm : Tmps) : g102 tm = tmp tm 102 := gO_tmp (show o102 = getP (pathOf 102) by kernel_rfl) tm
theorem p102_t (v : Option EV) (tm : Tmps) : p102 v tm = tm.put 102 v := pO_put (show p102 = setP (pathOf 102) by kernel_rfl) v tm
theorem w102_t (w : Bool) (tm : Tmps) : wantG o102 w tm = wantE (tmp tm 102) w := wantG_tmp (show o102 = getP (pathOf 102) by kernel_rfl) w tm
def o103 : Tmps → Option EV := Tr.goL (Tr.goL (Tr.goL (Tr.goR (Tr.goL (Tr.goR (Tr.top))))))
def g103 : EF := gO o103
def p103 : PF := Tr.setL (Tr.setL (Tr.setL (Tr.setR (Tr.setL (Tr.setR (Tr.setTop))))))
theorem g103_t (tm : Tmps) : g103 tm = tmp tm 103 := gO_tmp (show o103 = getP (pathOf 103) by kernel_rfl) tm
theorem p103_t (v : Option EV) (tm : Tmps) : p103 v tm = tm.put 103 v := pO_put (show p103 = setP (pathOf 103) by kernel_rfl) v tm
theorem w103_t (w : Bool) (tm : Tmps) : wantG o103 w tm = wantE (tmp tm 103) w := wantG_tmp (show o103 = getP (pathOf 103) by kernel_rfl) w tm
def o104 : Tmps → Option EV := Tr.goR (Tr.goL (Tr.goL (Tr.goR (Tr.goL (Tr.goR (Tr.top))))))
def g104 : EF := gO o104
def p104 : PF := Tr.setR (Tr.setL (Tr.setL (Tr.setR (Tr.setL (Tr.setR (Tr.setTop))))))
theorem g104_t (tm : Tmps) : g104 tm = tmp tm 104 := gO_tmp (show o104 = getP (pathOf 104) by kernel_rfl) tm
theorem p104_t (v : Option EV) (tm : Tmps) : p104 v tm = tm.put 104 v := pO_put (show p104 = setP (pathOf 104) by kernel_rfl) v tm
theorem w104_t (w : Bool) (tm : Tmps) : wantG o104 w tm = wantE (tmp tm 104) w := wantG_tmp (show o104 = getP (pathOf 104) by kernel_rfl) w tm
theorem tt0 : (∀ tm, g0 tm = tmp tm 0) ∧ (∀ v tm, p0 v tm = tm.put 0 v) ∧ (∀ w tm, wantG o0 w tm = wantE (tmp tm 0) w) ∧ (∀ tm, g1 tm = tmp tm 1) ∧ (∀ v tm, p1 v tm = tm.put 1 v) ∧ (∀ w tm, wantG o1 w tm = wantE (tmp tm 1) w) ∧ (∀ tm, g2 tm = tmp tm 2) ∧ (∀ v tm, p2 v tm = tm.put 2 v) ∧ (∀ w tm, wantG o2 w tm = wantE (tmp tm 2) w) ∧ (∀ tm, g3 tm = tmp tm 3) ∧ (∀ v tm, p3 v tm = tm.put 3 v) ∧ (∀ w tm, wantG o3 w tm = wantE (tmp tm 3) w) ∧ (∀ tm, g4 tm = tmp tm 4) ∧ (∀ v tm, p4 v tm = tm.put 4 v) ∧ (∀ w tm, wantG o4 w tm = wantE (tmp tm 4) w) ∧ (∀ tm, g5 tm = tmp tm 5) ∧ (∀ v tm, p5 v tm = tm.put 5 v) ∧ (∀ w tm, wantG o5 w tm = wantE (tmp tm 5) w) ∧ (∀ tm, g6 tm = tmp tm 6) ∧ (∀ v tm, p6 v tm = tm.put 6 v) ∧ (∀ w tm, wantG o6 w tm = wantE (tmp tm 6) w) ∧ (∀ tm, g7 tm = tmp tm 7) ∧ (∀ v tm, p7 v tm = tm.put 7 v) ∧ (∀ w tm, wantG o7 w tm = wantE (tmp tm 7) w) ∧ (∀ tm, g8 tm = tmp tm 8) ∧ (∀ v tm, p8 v tm = tm.put 8 v) ∧ (∀ w tm, wantG o8 w tm = wantE (tmp tm 8) w) ∧ (∀ tm, g9 tm = tmp tm 9) ∧ (∀ v tm, p9 v tm = tm.put 9 v) ∧ (∀ w tm, wantG o9 w tm = wantE (tmp tm 9) w) ∧ (∀ tm, g10 tm = tmp tm 10) ∧ (∀ v tm, p10 v tm = tm.put 10 v) ∧ (∀ w tm, wantG o10 w tm = wantE (tmp tm 10) w) ∧ (∀ tm, g11 tm = tmp tm 11) ∧ (∀ v tm, p11 v tm = tm.put 11 v) ∧ (∀ w tm, wantG o11 w tm = wantE (tmp tm 11) w) ∧ (∀ tm, g12 tm = tmp tm 12) ∧ (∀ v tm, p12 v tm = tm.put 12 v) ∧ (∀ w tm, wantG o12 w tm = wantE (tmp tm 12) w) ∧ (∀ tm, g13 tm = tmp tm 13) ∧ (∀ v tm, p13 v tm = tm.put 13 v) ∧ (∀ w tm, wantG o13 w tm = wantE (tmp tm 13) w) ∧ (∀ tm, g14 tm = tmp tm 14) ∧ (∀ v tm, p14 v tm = tm.put 14 v) ∧ (∀ w tm, wantG o14 w tm = wantE (tmp tm 14) w) ∧ (∀ tm, g15 tm = tmp tm 15) ∧ (∀ v tm, p15 v tm = tm.put 15 v) ∧ (∀ w tm, wantG o15 w tm = wantE (tmp tm 15) w) ∧ (∀ tm, g16 tm = tmp tm 16) ∧ (∀ v tm, p16 v tm = tm.put 16 v) ∧ (∀ w tm, wantG o16 w tm = wantE (tmp tm 16) w) ∧ (∀ tm, g17 tm = tmp tm 17) ∧ (∀ v tm, p17 v tm = tm.put 17 v) ∧ (∀ w tm, wantG o17 w tm = wantE (tmp tm 17) w) ∧ (∀ tm, g18 tm = tmp tm 18) ∧ (∀ v tm, p18 v tm = tm.put 18 v) ∧ (∀ w tm, wantG o18 w tm = wantE (tmp tm 18) w) ∧ (∀ tm, g19 tm = tmp tm 19) ∧ (∀ v tm, p19 v tm = tm.put 19 v) ∧ (∀ w tm, wantG o19 w tm = wantE (tmp tm 19) w) ∧ (∀ tm, g20 tm = tmp tm 20) ∧ (∀ v tm, p20 v tm = tm.put 20 v) ∧ (∀ w tm, wantG o20 w tm = wantE (tmp tm 20) w) ∧ (∀ tm, g21 tm = tmp tm 21) ∧ (∀ v tm, p21 v tm = tm.put 21 v) ∧ (∀ w tm, wantG o21 w tm = wantE (tmp tm 21) w) ∧ (∀ tm, g22 tm = tmp tm 22) ∧ (∀ v tm, p22 v tm = tm.put 22 v) ∧ (∀ w tm, wantG o22 w tm = wantE (tmp tm 22) w) ∧ (∀ tm, g23 tm = tmp tm 23) ∧ (∀ v tm, p23 v tm = tm.put 23 v) ∧ (∀ w tm, wantG o23 w tm = wantE (tmp tm 23) w) ∧ (∀ tm, g24 tm = tmp tm 24) ∧ (∀ v tm, p24 v tm = tm.put 24 v) ∧ (∀ w tm, wantG o24 w tm = wantE (tmp tm 24) w) ∧ (∀ tm, g25 tm = tmp tm 25) ∧ (∀ v tm, p25 v tm = tm.put 25 v) ∧ (∀ w tm, wantG o25 w tm = wantE (tmp tm 25) w) ∧ (∀ tm, g26 tm = tmp tm 26) ∧ (∀ v tm, p26 v tm = tm.put 26 v) ∧ (∀ w tm, wantG o26 w tm = wantE (tmp tm 26) w) ∧ (∀ tm, g27 tm = tmp tm 27) ∧ (∀ v tm, p27 v tm = tm.put 27 v) ∧ (∀ w tm, wantG o27 w tm = wantE (tmp tm 27) w) ∧ (∀ tm, g28 tm = tmp tm 28) ∧ (∀ v tm, p28 v tm = tm.put 28 v) ∧ (∀ w tm, wantG o28 w tm = wantE (tmp tm 28) w) ∧ (∀ tm, g29 tm = tmp tm 29) ∧ (∀ v tm, p29 v tm = tm.put 29 v) ∧ (∀ w tm, wantG o29 w tm = wantE (tmp tm 29) w) ∧ (∀ tm, g30 tm = tmp tm 30) ∧ (∀ v tm, p30 v tm = tm.put 30 v) ∧ (∀ w tm, wantG o30 w tm = wantE (tmp tm 30) w) ∧ (∀ tm, g31 tm = tmp tm 31) ∧ (∀ v tm, p31 v tm = tm.put 31 v) ∧ (∀ w tm, wantG o31 w tm = wantE (tmp tm 31) w) := ⟨g0_t, p0_t, w0_t, g1_t, p1_t, w1_t, g2_t, p2_t, w2_t, g3_t, p3_t, w3_t, g4_t, p4_t, w4_t, g5_t, p5_t, w5_t, g6_t, p6_t, w6_t, g7_t, p7_t, w7_t, g8_t, p8_t, w8_t, g9_t, p9_t, w9_t, g10_t, p10_t, w10_t, g11_t, p11_t, w11_t, g12_t, p12_t, w12_t, g13_t, p13_t, w13_t, g14_t, p14_t, w14_t, g15_t, p15_t, w15_t, g16_t, p16_t, w16_t, g17_t, p17_t, w17_t, g18_t, p18_t, w18_t, g19_t, p19_t, w19_t, g20_t, p20_t, w20_t, g21_t, p21_t, w21_t, g22_t, p22_t, w22_t, g23_t, p23_t, w23_t, g24_t, p24_t, w24_t, g25_t, p25_t, w25_t, g26_t, p26_t, w26_t, g27_t, p27_t, w27_t, g28_t, p28_t, w28_t, g29_t, p29_t, w29_t, g30_t, p30_t, w30_t, g31_t, p31_t, w31_t⟩
theorem tt1 : (∀ tm, g32 tm = tmp tm 32) ∧ (∀ v tm, p32 v tm = tm.put 32 v) ∧ (∀ w tm, wantG o32 w tm = wantE (tmp tm 32) w) ∧ (∀ tm, g33 tm = tmp tm 33) ∧ (∀ v tm, p33 v tm = tm.put 33 v) ∧ (∀ w tm, wantG o33 w tm = wantE (tmp tm 33) w) ∧ (∀ tm, g34 tm = tmp tm 34) ∧ (∀ v tm, p34 v tm = tm.put 34 v) ∧ (∀ w tm, wantG o34 w tm = wantE (tmp tm 34) w) ∧ (∀ tm, g35 tm = tmp tm 35) ∧ (∀ v tm, p35 v tm = tm.put 35 v) ∧ (∀ w tm, wantG o35 w tm = wantE (tmp tm 35) w) ∧ (∀ tm, g36 tm = tmp tm 36) ∧ (∀ v tm, p36 v tm = tm.put 36 v) ∧ (∀ w tm, wantG o36 w tm = wantE (tmp tm 36) w) ∧ (∀ tm, g37 tm = tmp tm 37) ∧ (∀ v tm, p37 v tm = tm.put 37 v) ∧ (∀ w tm, wantG o37 w tm = wantE (tmp tm 37) w) ∧ (∀ tm, g38 tm = tmp tm 38) ∧ (∀ v tm, p38 v tm = tm.put 38 v) ∧ (∀ w tm, wantG o38 w tm = wantE (tmp tm 38) w) ∧ (∀ tm, g39 tm = tmp tm 39) ∧ (∀ v tm, p39 v tm = tm.put 39 v) ∧ (∀ w tm, wantG o39 w tm = wantE (tmp tm 39) w) ∧ (∀ tm, g40 tm = tmp tm 40) ∧ (∀ v tm, p40 v tm = tm.put 40 v) ∧ (∀ w tm, wantG o40 w tm = wantE (tmp tm 40) w) ∧ (∀ tm, g41 tm = tmp tm 41) ∧ (∀ v tm, p41 v tm = tm.put 41 v) ∧ (∀ w tm, wantG o41 w tm = wantE (tmp tm 41) w) ∧ (∀ tm, g42 tm = tmp tm 42) ∧ (∀ v tm, p42 v tm = tm.put 42 v) ∧ (∀ w tm, wantG o42 w tm = wantE (tmp tm 42) w) ∧ (∀ tm, g43 tm = tmp tm 43) ∧ (∀ v tm, p43 v tm = tm.put 43 v) ∧ (∀ w tm, wantG o43 w tm = wantE (tmp tm 43) w) ∧ (∀ tm, g44 tm = tmp tm 44) ∧ (∀ v tm, p44 v tm = tm.put 44 v) ∧ (∀ w tm, wantG o44 w tm = wantE (tmp tm 44) w) ∧ (∀ tm, g45 tm = tmp tm 45) ∧ (∀ v tm, p45 v tm = tm.put 45 v) ∧ (∀ w tm, wantG o45 w tm = wantE (tmp tm 45) w) ∧ (∀ tm, g46 tm = tmp tm 46) ∧ (∀ v tm, p46 v tm = tm.put 46 v) ∧ (∀ w tm, wantG o46 w tm = wantE (tmp tm 46) w) ∧ (∀ tm, g47 tm = tmp tm 47) ∧ (∀ v tm, p47 v tm = tm.put 47 v) ∧ (∀ w tm, wantG o47 w tm = wantE (tmp tm 47) w) ∧ (∀ tm, g48 tm = tmp tm 48) ∧ (∀ v tm, p48 v tm = tm.put 48 v) ∧ (∀ w tm, wantG o48 w tm = wantE (tmp tm 48) w) ∧ (∀ tm, g49 tm = tmp tm 49) ∧ (∀ v tm, p49 v tm = tm.put 49 v) ∧ (∀ w tm, wantG o49 w tm = wantE (tmp tm 49) w) ∧ (∀ tm, g50 tm = tmp tm 50) ∧ (∀ v tm, p50 v tm = tm.put 50 v) ∧ (∀ w tm, wantG o50 w tm = wantE (tmp tm 50) w) ∧ (∀ tm, g51 tm = tmp tm 51) ∧ (∀ v tm, p51 v tm = tm.put 51 v) ∧ (∀ w tm, wantG o51 w tm = wantE (tmp tm 51) w) ∧ (∀ tm, g52 tm = tmp tm 52) ∧ (∀ v tm, p52 v tm = tm.put 52 v) ∧ (∀ w tm, wantG o52 w tm = wantE (tmp tm 52) w) ∧ (∀ tm, g53 tm = tmp tm 53) ∧ (∀ v tm, p53 v tm = tm.put 53 v) ∧ (∀ w tm, wantG o53 w tm = wantE (tmp tm 53) w) ∧ (∀ tm, g54 tm = tmp tm 54) ∧ (∀ v tm, p54 v tm = tm.put 54 v) ∧ (∀ w tm, wantG o54 w tm = wantE (tmp tm 54) w) ∧ (∀ tm, g55 tm = tmp tm 55) ∧ (∀ v tm, p55 v tm = tm.put 55 v) ∧ (∀ w tm, wantG o55 w tm = wantE (tmp tm 55) w) ∧ (∀ tm, g56 tm = tmp tm 56) ∧ (∀ v tm, p56 v tm = tm.put 56 v) ∧ (∀ w tm, wantG o56 w tm = wantE (tmp tm 56) w) ∧ (∀ tm, g57 tm = tmp tm 57) ∧ (∀ v tm, p57 v tm = tm.put 57 v) ∧ (∀ w tm, wantG o57 w tm = wantE (tmp tm 57) w) ∧ (∀ tm, g58 tm = tmp tm 58) ∧ (∀ v tm, p58 v tm = tm.put 58 v) ∧ (∀ w tm, wantG o58 w tm = wantE (tmp tm 58) w) ∧ (∀ tm, g59 tm = tmp tm 59) ∧ (∀ v tm, p59 v tm = tm.put 59 v) ∧ (∀ w tm, wantG o59 w tm = wantE (tmp tm 59) w) ∧ (∀ tm, g60 tm = tmp tm 60) ∧ (∀ v tm, p60 v tm = tm.put 60 v) ∧ (∀ w tm, wantG o60 w tm = wantE (tmp tm 60) w) ∧ (∀ tm, g61 tm = tmp tm 61) ∧ (∀ v tm, p61 v tm = tm.put 61 v) ∧ (∀ w tm, wantG o61 w tm = wantE (tmp tm 61) w) ∧ (∀ tm, g62 tm = tmp tm 62) ∧ (∀ v tm, p62 v tm = tm.put 62 v) ∧ (∀ w tm, wantG o62 w tm = wantE (tmp tm 62) w) ∧ (∀ tm, g63 tm = tmp tm 63) ∧ (∀ v tm, p63 v tm = tm.put 63 v) ∧ (∀ w tm, wantG o63 w tm = wantE (tmp tm 63) w) := ⟨g32_t, p32_t, w32_t, g33_t, p33_t, w33_t, g34_t, p34_t, w34_t, g35_t, p35_t, w35_t, g36_t, p36_t, w36_t, g37_t, p37_t, w37_t, g38_t, p38_t, w38_t, g39_t, p39_t, w39_t, g40_t, p40_t, w40_t, g41_t, p41_t, w41_t, g42_t, p42_t, w42_t, g43_t, p43_t, w43_t, g44_t, p44_t, w44_t, g45_t, p45_t, w45_t, g46_t, p46_t, w46_t, g47_t, p47_t, w47_t, g48_t, p48_t, w48_t, g49_t, p49_t, w49_t, g50_t, p50_t, w50_t, g51_t, p51_t, w51_t, g52_t, p52_t, w52_t, g53_t, p53_t, w53_t, g54_t, p54_t, w54_t, g55_t, p55_t, w55_t, g56_t, p56_t, w56_t, g57_t, p57_t, w57_t, g58_t, p58_t, w58_t, g59_t, p59_t, w59_t, g60_t, p60_t, w60_t, g61_t, p61_t, w61_t, g62_t, p62_t, w62_t, g63_t, p63_t, w63_t⟩
theorem tt2 : (∀ tm, g64 tm = tmp tm 64) ∧ (∀ v tm, p64 v tm = tm.put 64 v) ∧ (∀ w tm, wantG o64 w tm = wantE (tmp tm 64) w) ∧ (∀ tm, g65 tm = tmp tm 65) ∧ (∀ v tm, p65 v tm = tm.put 65 v) ∧ (∀ w tm, wantG o65 w tm = wantE (tmp tm 65) w) ∧ (∀ tm, g66 tm = tmp tm 66) ∧ (∀ v tm, p66 v tm = tm.put 66 v) ∧ (∀ w tm, wantG o66 w tm = wantE (tmp tm 66) w) ∧ (∀ tm, g67 tm = tmp tm 67) ∧ (∀ v tm, p67 v tm = tm.put 67 v) ∧ (∀ w tm, wantG o67 w tm = wantE (tmp tm 67) w) ∧ (∀ tm, g68 tm = tmp tm 68) ∧ (∀ v tm, p68 v tm = tm.put 68 v) ∧ (∀ w tm, wantG o68 w tm = wantE (tmp tm 68) w) ∧ (∀ tm, g69 tm = tmp tm 69) ∧ (∀ v tm, p69 v tm = tm.put 69 v) ∧ (∀ w tm, wantG o69 w tm = wantE (tmp tm 69) w) ∧ (∀ tm, g70 tm = tmp tm 70) ∧ (∀ v tm, p70 v tm = tm.put 70 v) ∧ (∀ w tm, wantG o70 w tm = wantE (tmp tm 70) w) ∧ (∀ tm, g71 tm = tmp tm 71) ∧ (∀ v tm, p71 v tm = tm.put 71 v) ∧ (∀ w tm, wantG o71 w tm = wantE (tmp tm 71) w) ∧ (∀ tm, g72 tm = tmp tm 72) ∧ (∀ v tm, p72 v tm = tm.put 72 v) ∧ (∀ w tm, wantG o72 w tm = wantE (tmp tm 72) w) ∧ (∀ tm, g73 tm = tmp tm 73) ∧ (∀ v tm, p73 v tm = tm.put 73 v) ∧ (∀ w tm, wantG o73 w tm = wantE (tmp tm 73) w) ∧ (∀ tm, g74 tm = tmp tm 74) ∧ (∀ v tm, p74 v tm = tm.put 74 v) ∧ (∀ w tm, wantG o74 w tm = wantE (tmp tm 74) w) ∧ (∀ tm, g75 tm = tmp tm 75) ∧ (∀ v tm, p75 v tm = tm.put 75 v) ∧ (∀ w tm, wantG o75 w tm = wantE (tmp tm 75) w) ∧ (∀ tm, g76 tm = tmp tm 76) ∧ (∀ v tm, p76 v tm = tm.put 76 v) ∧ (∀ w tm, wantG o76 w tm = wantE (tmp tm 76) w) ∧ (∀ tm, g77 tm = tmp tm 77) ∧ (∀ v tm, p77 v tm = tm.put 77 v) ∧ (∀ w tm, wantG o77 w tm = wantE (tmp tm 77) w) ∧ (∀ tm, g78 tm = tmp tm 78) ∧ (∀ v tm, p78 v tm = tm.put 78 v) ∧ (∀ w tm, wantG o78 w tm = wantE (tmp tm 78) w) ∧ (∀ tm, g79 tm = tmp tm 79) ∧ (∀ v tm, p79 v tm = tm.put 79 v) ∧ (∀ w tm, wantG o79 w tm = wantE (tmp tm 79) w) ∧ (∀ tm, g80 tm = tmp tm 80) ∧ (∀ v tm, p80 v tm = tm.put 80 v) ∧ (∀ w tm, wantG o80 w tm = wantE (tmp tm 80) w) ∧ (∀ tm, g81 tm = tmp tm 81) ∧ (∀ v tm, p81 v tm = tm.put 81 v) ∧ (∀ w tm, wantG o81 w tm = wantE (tmp tm 81) w) ∧ (∀ tm, g82 tm = tmp tm 82) ∧ (∀ v tm, p82 v tm = tm.put 82 v) ∧ (∀ w tm, wantG o82 w tm = wantE (tmp tm 82) w) ∧ (∀ tm, g83 tm = tmp tm 83) ∧ (∀ v tm, p83 v tm = tm.put 83 v) ∧ (∀ w tm, wantG o83 w tm = wantE (tmp tm 83) w) ∧ (∀ tm, g84 tm = tmp tm 84) ∧ (∀ v tm, p84 v tm = tm.put 84 v) ∧ (∀ w tm, wantG o84 w tm = wantE (tmp tm 84) w) ∧ (∀ tm, g85 tm = tmp tm 85) ∧ (∀ v tm, p85 v tm = tm.put 85 v) ∧ (∀ w tm, wantG o85 w tm = wantE (tmp tm 85) w) ∧ (∀ tm, g86 tm = tmp tm 86) ∧ (∀ v tm, p86 v tm = tm.put 86 v) ∧ (∀ w tm, wantG o86 w tm = wantE (tmp tm 86) w) ∧ (∀ tm, g87 tm = tmp tm 87) ∧ (∀ v tm, p87 v tm = tm.put 87 v) ∧ (∀ w tm, wantG o87 w tm = wantE (tmp tm 87) w) ∧ (∀ tm, g88 tm = tmp tm 88) ∧ (∀ v tm, p88 v tm = tm.put 88 v) ∧ (∀ w tm, wantG o88 w tm = wantE (tmp tm 88) w) ∧ (∀ tm, g89 tm = tmp tm 89) ∧ (∀ v tm, p89 v tm = tm.put 89 v) ∧ (∀ w tm, wantG o89 w tm = wantE (tmp tm 89) w) ∧ (∀ tm, g90 tm = tmp tm 90) ∧ (∀ v tm, p90 v tm = tm.put 90 v) ∧ (∀ w tm, wantG o90 w tm = wantE (tmp tm 90) w) ∧ (∀ tm, g91 tm = tmp tm 91) ∧ (∀ v tm, p91 v tm = tm.put 91 v) ∧ (∀ w tm, wantG o91 w tm = wantE (tmp tm 91) w) ∧ (∀ tm, g92 tm = tmp tm 92) ∧ (∀ v tm, p92 v tm = tm.put 92 v) ∧ (∀ w tm, wantG o92 w tm = wantE (tmp tm 92) w) ∧ (∀ tm, g93 tm = tmp tm 93) ∧ (∀ v tm, p93 v tm = tm.put 93 v) ∧ (∀ w tm, wantG o93 w tm = wantE (tmp tm 93) w) ∧ (∀ tm, g94 tm = tmp tm 94) ∧ (∀ v tm, p94 v tm = tm.put 94 v) ∧ (∀ w tm, wantG o94 w tm = wantE (tmp tm 94) w) ∧ (∀ tm, g95 tm = tmp tm 95) ∧ (∀ v tm, p95 v tm = tm.put 95 v) ∧ (∀ w tm, wantG o95 w tm = wantE (tmp tm 95) w) := ⟨g64_t, p64_t, w64_t, g65_t, p65_t, w65_t, g66_t, p66_t, w66_t, g67_t, p67_t, w67_t, g68_t, p68_t, w68_t, g69_t, p69_t, w69_t, g70_t, p70_t, w70_t, g71_t, p71_t, w71_t, g72_t, p72_t, w72_t, g73_t, p73_t, w73_t, g74_t, p74_t, w74_t, g75_t, p75_t, w75_t, g76_t, p76_t, w76_t, g77_t, p77_t, w77_t, g78_t, p78_t, w78_t, g79_t, p79_t, w79_t, g80_t, p80_t, w80_t, g81_t, p81_t, w81_t, g82_t, p82_t, w82_t, g83_t, p83_t, w83_t, g84_t, p84_t, w84_t, g85_t, p85_t, w85_t, g86_t, p86_t, w86_t, g87_t, p87_t, w87_t, g88_t, p88_t, w88_t, g89_t, p89_t, w89_t, g90_t, p90_t, w90_t, g91_t, p91_t, w91_t, g92_t, p92_t, w92_t, g93_t, p93_t, w93_t, g94_t, p94_t, w94_t, g95_t, p95_t, w95_t⟩
theorem tt3 : (∀ tm, g96 tm = tmp tm 96) ∧ (∀ v tm, p96 v tm = tm.put 96 v) ∧ (∀ w tm, wantG o96 w tm = wantE (tmp tm 96) w) ∧ (∀ tm, g97 tm = tmp tm 97) ∧ (∀ v tm, p97 v tm = tm.put 97 v) ∧ (∀ w tm, wantG o97 w tm = wantE (tmp tm 97) w) ∧ (∀ tm, g98 tm = tmp tm 98) ∧ (∀ v tm, p98 v tm = tm.put 98 v) ∧ (∀ w tm, wantG o98 w tm = wantE (tmp tm 98) w) ∧ (∀ tm, g99 tm = tmp tm 99) ∧ (∀ v tm, p99 v tm = tm.put 99 v) ∧ (∀ w tm, wantG o99 w tm = wantE (tmp tm 99) w) ∧ (∀ tm, g100 tm = tmp tm 100) ∧ (∀ v tm, p100 v tm = tm.put 100 v) ∧ (∀ w tm, wantG o100 w tm = wantE (tmp tm 100) w) ∧ (∀ tm, g101 tm = tmp tm 101) ∧ (∀ v tm, p101 v tm = tm.put 101 v) ∧ (∀ w tm, wantG o101 w tm = wantE (tmp tm 101) w) ∧ (∀ tm, g102 tm = tmp tm 102) ∧ (∀ v tm, p102 v tm = tm.put 102 v) ∧ (∀ w tm, wantG o102 w tm = wantE (tmp tm 102) w) ∧ (∀ tm, g103 tm = tmp tm 103) ∧ (∀ v tm, p103 v tm = tm.put 103 v) ∧ (∀ w tm, wantG o103 w tm = wantE (tmp tm 103) w) ∧ (∀ tm, g104 tm = tmp tm 104) ∧ (∀ v tm, p104 v tm = tm.put 104 v) ∧ (∀ w tm, wantG o104 w tm = wantE (tmp tm 104) w) := ⟨g96_t, p96_t, w96_t, g97_t, p97_t, w97_t, g98_t, p98_t, w98_t, g99_t, p99_t, w99_t, g100_t, p100_t, w100_t, g101_t, p101_t, w101_t, g102_t, p102_t, w102_t, g103_t, p103_t, w103_t, g104_t, p104_t, w104_t⟩
end
end Go.Ev
