import Derived.Test.YtpkcfamminlmaaaGreatTab
import Derived.Test.YtpkcfamminlmaaaGreatEvSix
set_option linter.unusedVariables false
set_option linter.unusedSimpArgs false
set_option linter.unusedSectionVars false
namespace Go.Ev
open Go.Proofs
set_option maxRecDepth 100000
noncomputable section
def o0 : Tmps->Option EV:=Tr.top
def g0 : EF:=gO o0
def p0 : PF:=Tr.setTop
theorem g0_t (tm : Tmps) : g0 tm = tmp tm 0:=gO_tmp (show o0 = getP (pathOf 0) by kernel_rfl) tm
theorem p0_t (v : Option EV) (tm : Tmps) : p0 v tm = tm.put 0 v:=pO_put (show p0 = setP (pathOf 0) by kernel_rfl) v tm
theorem w0_t (w : Bool) (tm : Tmps) : wantG o0 w tm = wantE (tmp tm 0) w:=wantG_tmp (show o0 = getP (pathOf 0) by kernel_rfl) w tm
def o1 : Tmps->Option EV:=Tr.goL (Tr.top)
def g1 : EF:=gO o1
def p1 : PF:=Tr.setL (Tr.setTop)
theorem g1_t (tm : Tmps) : g1 tm = tmp tm 1:=gO_tmp (show o1 = getP (pathOf 1) by kernel_rfl) tm
theorem p1_t (v : Option EV) (tm : Tmps) : p1 v tm = tm.put 1 v:=pO_put (show p1 = setP (pathOf 1) by kernel_rfl) v tm
theorem w1_t (w : Bool) (tm : Tmps) : wantG o1 w tm = wantE (tmp tm 1) w:=wantG_tmp (show o1 = getP (pathOf 1) by kernel_rfl) w tm
def o2 : Tmps->Option EV:=Tr.goR (Tr.top)
def g2 : EF:=gO o2
def p2 : PF:=Tr.setR (Tr.setTop)
theorem g2_t (tm : Tmps) : g2 tm = tmp tm 2:=gO_tmp (show o2 = getP (pathOf 2) by kernel_rfl) tm
theorem p2_t (v : Option EV) (tm : Tmps) : p2 v tm = tm.put 2 v:=pO_put (show p2 = setP (pathOf 2) by kernel_rfl) v tm
theorem w2_t (w : Bool) (tm : Tmps) : wantG o2 w tm = wantE (tmp tm 2) w:=wantG_tmp (show o2 = getP (pathOf 2) by kernel_rfl) w tm
def o3 : Tmps->Option EV:=Tr.goL (Tr.goL (Tr.top))
def g3 : EF:=gO o3
def p3 : PF:=Tr.setL (Tr.setL (Tr.setTop))
theorem g3_t (tm : Tmps) : g3 tm = tmp tm 3:=gO_tmp (show o3 = getP (pathOf 3) by kernel_rfl) tm
theorem p3_t (v : Option EV) (tm : Tmps) : p3 v tm = tm.put 3 v:=pO_put (show p3 = setP (pathOf 3) by kernel_rfl) v tm
theorem w3_t (w : Bool) (tm : Tmps) : wantG o3 w tm = wantE (tmp tm 3) w:=wantG_tmp (show o3 = getP (pathOf 3) by kernel_rfl) w tm
def o4 : Tmps->Option EV:=Tr.goR (Tr.goL (Tr.top))
def g4 : EF:=gO o4
def p4 : PF:=Tr.setR (Tr.setL (Tr.setTop))
theorem g4_t (tm : Tmps) : g4 tm = tmp tm 4:=gO_tmp (show o4 = getP (pathOf 4) by kernel_rfl) tm
theorem p4_t (v : Option EV) (tm : Tmps) : p4 v tm = tm.put 4 v:=pO_put (show p4 = setP (pathOf 4) by kernel_rfl) v tm
theorem w4_t (w : Bool) (tm : Tmps) : wantG o4 w tm = wantE (tmp tm 4) w:=wantG_tmp (show o4 = getP (pathOf 4) by kernel_rfl) w tm
def o5 : Tmps->Option EV:=Tr.goL (Tr.goR (Tr.top))
def g5 : EF:=gO o5
def p5 : PF:=Tr.setL (Tr.setR (Tr.setTop))
theorem g5_t (tm : Tmps) : g5 tm = tmp tm 5:=gO_tmp (show o5 = getP (pathOf 5) by kernel_rfl) tm
theorem p5_t (v : Option EV) (tm : Tmps) : p5 v tm = tm.put 5 v:=pO_put (show p5 = setP (pathOf 5) by kernel_rfl) v tm
theorem w5_t (w : Bool) (tm : Tmps) : wantG o5 w tm = wantE (tmp tm 5) w:=wantG_tmp (show o5 = getP (pathOf 5) by kernel_rfl) w tm
def o6 : Tmps->Option EV:=Tr.goR (Tr.goR (Tr.top))
def g6 : EF:=gO o6
def p6 : PF:=Tr.setR (Tr.setR (Tr.setTop))
theorem g6_t (tm : Tmps) : g6 tm = tmp tm 6:=gO_tmp (show o6 = getP (pathOf 6) by kernel_rfl) tm
theorem p6_t (v : Option EV) (tm : Tmps) : p6 v tm = tm.put 6 v:=pO_put (show p6 = setP (pathOf 6) by kernel_rfl) v tm
theorem w6_t (w : Bool) (tm : Tmps) : wantG o6 w tm = wantE (tmp tm 6) w:=wantG_tmp (show o6 = getP (pathOf 6) by kernel_rfl) w tm
def o7 : Tmps->Option EV:=Tr.goL (Tr.goL (Tr.goL (Tr.top)))
def g7 : EF:=gO o7
def p7 : PF:=Tr.setL (Tr.setL (Tr.setL (Tr.setTop)))
theorem g7_t (tm : Tmps) : g7 tm = tmp tm 7:=gO_tmp (show o7 = getP (pathOf 7) by kernel_rfl) tm
theorem p7_t (v : Option EV) (tm : Tmps) : p7 v tm = tm.put 7 v:=pO_put (show p7 = setP (pathOf 7) by kernel_rfl) v tm
theorem w7_t (w : Bool) (tm : Tmps) : wantG o7 w tm = wantE (tmp tm 7) w:=wantG_tmp (show o7 = getP (pathOf 7) by kernel_rfl) w tm
def o8 : Tmps->Option EV:=Tr.goR (Tr.goL (Tr.goL (Tr.top)))
def g8 : EF:=gO o8
def p8 : PF:=Tr.setR (Tr.setL (Tr.setL (Tr.setTop)))
theorem g8_t (tm : Tmps) : g8 tm = tmp tm 8:=gO_tmp (show o8 = getP (pathOf 8) by kernel_rfl) tm
theorem p8_t (v : Option EV) (tm : Tmps) : p8 v tm = tm.put 8 v:=pO_put (show p8 = setP (pathOf 8) by kernel_rfl) v tm
theorem w8_t (w : Bool) (tm : Tmps) : wantG o8 w tm = wantE (tmp tm 8) w:=wantG_tmp (show o8 = getP (pathOf 8) by kernel_rfl) w tm
def o9 : Tmps->Option EV:=Tr.goL (Tr.goR (Tr.goL (Tr.top)))
def g9 : EF:=gO o9
def p9 : PF:=Tr.setL (Tr.setR (Tr.setL (Tr.setTop)))
theorem g9_t (tm : Tmps) : g9 tm = tmp tm 9:=gO_tmp (show o9 = getP (pathOf 9) by kernel_rfl) tm
theorem p9_t (v : Option EV) (tm : Tmps) : p9 v tm = tm.put 9 v:=pO_put (show p9 = setP (pathOf 9) by kernel_rfl) v tm
theorem w9_t (w : Bool) (tm : Tmps) : wantG o9 w tm = wantE (tmp tm 9) w:=wantG_tmp (show o9 = getP (pathOf 9) by kernel_rfl) w tm
def o10 : Tmps->Option EV:=Tr.goR (Tr.goR (Tr.goL (Tr.top)))
def g10 : EF:=gO o10
def p10 : PF:=Tr.setR (Tr.setR (Tr.setL (Tr.setTop)))
theorem g10_t (tm : Tmps) : g10 tm = tmp tm 10:=gO_tmp (show o10 = getP (pathOf 10) by kernel_rfl) tm
theorem p10_t (v : Option EV) (tm : Tmps) : p10 v tm = tm.put 10 v:=pO_put (show p10 = setP (pathOf 10) by kernel_rfl) v tm
theorem w10_t (w : Bool) (tm : Tmps) : wantG o10 w tm = wantE (tmp tm 10) w:=wantG_tmp (show o10 = getP (pathOf 10) by kernel_rfl) w tm
def o11 : Tmps->Option EV:=Tr.goL (Tr.goL (Tr.goR (Tr.top)))
def g11 : EF:=gO o11
def p11 : PF:=Tr.setL (Tr.setL (Tr.setR (Tr.setTop)))
theorem g11_t (tm : Tmps) : g11 tm = tmp tm 11:=gO_tmp (show o11 = getP (pathOf 11) by kernel_rfl) tm
theorem p11_t (v : Option EV) (tm : Tmps) : p11 v tm = tm.put 11 v:=pO_put (show p11 = setP (pathOf 11) by kernel_rfl) v tm
theorem w11_t (w : Bool) (tm : Tmps) : wantG o11 w tm = wantE (tmp tm 11) w:=wantG_tmp (show o11 = getP (pathOf 11) by kernel_rfl) w tm
def o12 : Tmps->Option EV:=Tr.goR (Tr.goL (Tr.goR (Tr.top)))
def g12 : EF:=gO o12
def p12 : PF:=Tr.setR (Tr.setL (Tr.setR (Tr.setTop)))
theorem g12_t (tm : Tmps) : g12 tm = tmp tm 12:=gO_tmp (show o12 = getP (pathOf 12) by kernel_rfl) tm
theorem p12_t (v : Option EV) (tm : Tmps) : p12 v tm = tm.put 12 v:=pO_put (show p12 = setP (pathOf 12) by kernel_rfl) v tm
theorem w12_t (w : Bool) (tm : Tmps) : wantG o12 w tm = wantE (tmp tm 12) w:=wantG_tmp (show o12 = getP (pathOf 12) by kernel_rfl) w tm
def o13 : Tmps->Option EV:=Tr.goL (Tr.goR (Tr.goR (Tr.top)))
def g13 : EF:=gO o13
def p13 : PF:=Tr.setL (Tr.setR (Tr.setR (Tr.setTop)))
theorem g13_t (tm : Tmps) : g13 tm = tmp tm 13:=gO_tmp (show o13 = getP (pathOf 13) by kernel_rfl) tm
theorem p13_t (v : Option EV) (tm : Tmps) : p13 v tm = tm.put 13 v:=pO_put (show p13 = setP (pathOf 13) by kernel_rfl) v tm
theorem w13_t (w : Bool) (tm : Tmps) : wantG o13 w tm = wantE (tmp tm 13) w:=wantG_tmp (show o13 = getP (pathOf 13) by kernel_rfl) w tm
def o14 : Tmps->Option EV:=Tr.goR (Tr.goR (Tr.goR (Tr.top)))
def g14 : EF:=gO o14
def p14 : PF:=Tr.setR (Tr.setR (Tr.setR (Tr.setTop)))
theorem g14_t (tm : Tmps) : g14 tm = tmp tm 14:=gO_tmp (show o14 = getP (pathOf 14) by kernel_rfl) tm
theorem p14_t (v : Option EV) (tm : Tmps) : p14 v tm = tm.put 14 v:=pO_put (show p14 = setP (pathOf 14) by kernel_rfl) v tm
theorem w14_t (w : Bool) (tm : Tmps) : wantG o14 w tm = wantE (tmp tm 14) w:=wantG_tmp (show o14 = getP (pathOf 14) by kernel_rfl) w tm
def o15 : Tmps->Option EV:=Tr.goL (Tr.goL (Tr.goL (Tr.goL (Tr.top))))
def g15 : EF:=gO o15
def p15 : PF:=Tr.setL (Tr.setL (Tr.setL (Tr.setL (Tr.setTop))))
theorem g15_t (tm : Tmps) : g15 tm = tmp tm 15:=gO_tmp (show o15 = getP (pathOf 15) by kernel_rfl) tm
theorem p15_t (v : Option EV) (tm : Tmps) : p15 v tm = tm.put 15 v:=pO_put (show p15 = setP (pathOf 15) by kernel_rfl) v tm
theorem w15_t (w : Bool) (tm : Tmps) : wantG o15 w tm = wantE (tmp tm 15) w:=wantG_tmp (show o15 = getP (pathOf 15) by kernel_rfl) w tm
def o16 : Tmps->Option EV:=Tr.goR (Tr.goL (Tr.goL (Tr.goL (Tr.top))))
def g16 : EF:=gO o16
def p16 : PF:=Tr.setR (Tr.setL (Tr.setL (Tr.setL (Tr.setTop))))
theorem g16_t (tm : Tmps) : g16 tm = tmp tm 16:=gO_tmp (show o16 = getP (pathOf 16) by kernel_rfl) tm
theorem p16_t (v : Option EV) (tm : Tmps) : p16 v tm = tm.put 16 v:=pO_put (show p16 = setP (pathOf 16) by kernel_rfl) v tm
theorem w16_t (w : Bool) (tm : Tmps) : wantG o16 w tm = wantE (tmp tm 16) w:=wantG_tmp (show o16 = getP (pathOf 16) by kernel_rfl) w tm
def o17 : Tmps->Option EV:=Tr.goL (Tr.goR (Tr.goL (Tr.goL (Tr.top))))
def g17 : EF:=gO o17
def p17 : PF:=Tr.setL (Tr.setR (Tr.setL (Tr.setL (Tr.setTop))))
theorem g17_t (tm : Tmps) : g17 tm = tmp tm 17:=gO_tmp (show o17 = getP (pathOf 17) by kernel_rfl) tm
theorem p17_t (v : Option EV) (tm : Tmps) : p17 v tm = tm.put 17 v:=pO_put (show p17 = setP (pathOf 17) by kernel_rfl) v tm
theorem w17_t (w : Bool) (tm : Tmps) : wantG o17 w tm = wantE (tmp tm 17) w:=wantG_tmp (show o17 = getP (pathOf 17) by kernel_rfl) w tm
def o18 : Tmps->Option EV:=Tr.goR (Tr.goR (Tr.goL (Tr.goL (Tr.top))))
def g18 : EF:=gO o18
def p18 : PF:=Tr.setR (Tr.setR (Tr.setL (Tr.setL (Tr.setTop))))
theorem g18_t (tm : Tmps) : g18 tm = tmp tm 18:=gO_tmp (show o18 = getP (pathOf 18) by kernel_rfl) tm
theorem p18_t (v : Option EV) (tm : Tmps) : p18 v tm = tm.put 18 v:=pO_put (show p18 = setP (pathOf 18) by kernel_rfl) v tm
theorem w18_t (w : Bool) (tm : Tmps) : wantG o18 w tm = wantE (tmp tm 18) w:=wantG_tmp (show o18 = getP (pathOf 18) by kernel_rfl) w tm
def o19 : Tmps->Option EV:=Tr.goL (Tr.goL (Tr.goR (Tr.goL (Tr.top))))
def g19 : EF:=gO o19
def p19 : PF:=Tr.setL (Tr.setL (Tr.setR (Tr.setL (Tr.setTop))))
theorem g19_t (tm : Tmps) : g19 tm = tmp tm 19:=gO_tmp (show o19 = getP (pathOf 19) by kernel_rfl) tm
theorem p19_t (v : Option EV) (tm : Tmps) : p19 v tm = tm.put 19 v:=pO_put (show p19 = setP (pathOf 19) by kernel_rfl) v tm
theorem w19_t (w : Bool) (tm : Tmps) : wantG o19 w tm = wantE (tmp tm 19) w:=wantG_tmp (show o19 = getP (pathOf 19) by kernel_rfl) w tm
def o20 : Tmps->Option EV:=Tr.goR (Tr.goL (Tr.goR (Tr.goL (Tr.top))))
def g20 : EF:=gO o20
def p20 : PF:=Tr.setR (Tr.setL (Tr.setR (Tr.setL (Tr.setTop))))
theorem g20_t (tm : Tmps) : g20 tm = tmp tm 20:=gO_tmp (show o20 = getP (pathOf 20) by kernel_rfl) tm
theorem p20_t (v : Option EV) (tm : Tmps) : p20 v tm = tm.put 20 v:=pO_put (show p20 = setP (pathOf 20) by kernel_rfl) v tm
theorem w20_t (w : Bool) (tm : Tmps) : wantG o20 w tm = wantE (tmp tm 20) w:=wantG_tmp (show o20 = getP (pathOf 20) by kernel_rfl) w tm
def o21 : Tmps->Option EV:=Tr.goL (Tr.goR (Tr.goR (Tr.goL (Tr.top))))
def g21 : EF:=gO o21
def p21 : PF:=Tr.setL (Tr.setR (Tr.setR (Tr.setL (Tr.setTop))))
theorem g21_t (tm : Tmps) : g21 tm = tmp tm 21:=gO_tmp (show o21 = getP (pathOf 21) by kernel_rfl) tm
theorem p21_t (v : Option EV) (tm : Tmps) : p21 v tm = tm.put 21 v:=pO_put (show p21 = setP (pathOf 21) by kernel_rfl) v tm
theorem w21_t (w : Bool) (tm : Tmps) : wantG o21 w tm = wantE (tmp tm 21) w:=wantG_tmp (show o21 = getP (pathOf 21) by kernel_rfl) w tm
def o22 : Tmps->Option EV:=Tr.goR (Tr.goR (Tr.goR (Tr.goL (Tr.top))))
def g22 : EF:=gO o22
def p22 : PF:=Tr.setR (Tr.setR (Tr.setR (Tr.setL (Tr.setTop))))
theorem g22_t (tm : Tmps) : g22 tm = tmp tm 22:=gO_tmp (show o22 = getP (pathOf 22) by kernel_rfl) tm
theorem p22_t (v : Option EV) (tm : Tmps) : p22 v tm = tm.put 22 v:=pO_put (show p22 = setP (pathOf 22) by kernel_rfl) v tm
theorem w22_t (w : Bool) (tm : Tmps) : wantG o22 w tm = wantE (tmp tm 22) w:=wantG_tmp (show o22 = getP (pathOf 22) by kernel_rfl) w tm
def o23 : Tmps->Option EV:=Tr.goL (Tr.goL (Tr.goL (Tr.goR (Tr.top))))
def g23 : EF:=gO o23
def p23 : PF:=Tr.setL (Tr.setL (Tr.setL (Tr.setR (Tr.setTop))))
theorem g23_t (tm : Tmps) : g23 tm = tmp tm 23:=gO_tmp (show o23 = getP (pathOf 23) by kernel_rfl) tm
theorem p23_t (v : Option EV) (tm : Tmps) : p23 v tm = tm.put 23 v:=pO_put (show p23 = setP (pathOf 23) by kernel_rfl) v tm
theorem w23_t (w : Bool) (tm : Tmps) : wantG o23 w tm = wantE (tmp tm 23) w:=wantG_tmp (show o23 = getP (pathOf 23) by kernel_rfl) w tm
def o24 : Tmps->Option EV:=Tr.goR (Tr.goL (Tr.goL (Tr.goR (Tr.top))))
def g24 : EF:=gO o24
def p24 : PF:=Tr.setR (Tr.setL (Tr.setL (Tr.setR (Tr.setTop))))
theorem g24_t (tm : Tmps) : g24 tm = tmp tm 24:=gO_tmp (show o24 = getP (pathOf 24) by kernel_rfl) tm
theorem p24_t (v : Option EV) (tm : Tmps) : p24 v tm = tm.put 24 v:=pO_put (show p24 = setP (pathOf 24) by kernel_rfl) v tm
theorem w24_t (w : Bool) (tm : Tmps) : wantG o24 w tm = wantE (tmp tm 24) w:=wantG_tmp (show o24 = getP (pathOf 24) by kernel_rfl) w tm
def o25 : Tmps->Option EV:=Tr.goL (Tr.goR (Tr.goL (Tr.goR (Tr.top))))
def g25 : EF:=gO o25
def p25 : PF:=Tr.setL (Tr.setR (Tr.setL (Tr.setR (Tr.setTop))))
theorem g25_t (tm : Tmps) : g25 tm = tmp tm 25:=gO_tmp (show o25 = getP (pathOf 25) by kernel_rfl) tm
theorem p25_t (v : Option EV) (tm : Tmps) : p25 v tm = tm.put 25 v:=pO_put (show p25 = setP (pathOf 25) by kernel_rfl) v tm
theorem w25_t (w : Bool) (tm : Tmps) : wantG o25 w tm = wantE (tmp tm 25) w:=wantG_tmp (show o25 = getP (pathOf 25) by kernel_rfl) w tm
def o26 : Tmps->Option EV:=Tr.goR (Tr.goR (Tr.goL (Tr.goR (Tr.top))))
def g26 : EF:=gO o26
def p26 : PF:=Tr.setR (Tr.setR (Tr.setL (Tr.setR (Tr.setTop))))
theorem g26_t (tm : Tmps) : g26 tm = tmp tm 26:=gO_tmp (show o26 = getP (pathOf 26) by kernel_rfl) tm
theorem p26_t (v : Option EV) (tm : Tmps) : p26 v tm = tm.put 26 v:=pO_put (show p26 = setP (pathOf 26) by kernel_rfl) v tm
theorem w26_t (w : Bool) (tm : Tmps) : wantG o26 w tm = wantE (tmp tm 26) w:=wantG_tmp (show o26 = getP (pathOf 26) by kernel_rfl) w tm
theorem tt0 : (∀ tm,g0 tm = tmp tm 0)/\(∀ v tm,p0 v tm = tm.put 0 v)/\(∀ w tm,wantG o0 w tm = wantE (tmp tm 0) w)/\(∀ tm,g1 tm = tmp tm 1)/\(∀ v tm,p1 v tm = tm.put 1 v)/\(∀ w tm,wantG o1 w tm = wantE (tmp tm 1) w)/\(∀ tm,g2 tm = tmp tm 2)/\(∀ v tm,p2 v tm = tm.put 2 v)/\(∀ w tm,wantG o2 w tm = wantE (tmp tm 2) w)/\(∀ tm,g3 tm = tmp tm 3)/\(∀ v tm,p3 v tm = tm.put 3 v)/\(∀ w tm,wantG o3 w tm = wantE (tmp tm 3) w)/\(∀ tm,g4 tm = tmp tm 4)/\(∀ v tm,p4 v tm = tm.put 4 v)/\(∀ w tm,wantG o4 w tm = wantE (tmp tm 4) w)/\(∀ tm,g5 tm = tmp tm 5)/\(∀ v tm,p5 v tm = tm.put 5 v)/\(∀ w tm,wantG o5 w tm = wantE (tmp tm 5) w)/\(∀ tm,g6 tm = tmp tm 6)/\(∀ v tm,p6 v tm = tm.put 6 v)/\(∀ w tm,wantG o6 w tm = wantE (tmp tm 6) w)/\(∀ tm,g7 tm = tmp tm 7)/\(∀ v tm,p7 v tm = tm.put 7 v)/\(∀ w tm,wantG o7 w tm = wantE (tmp tm 7) w)/\(∀ tm,g8 tm = tmp tm 8)/\(∀ v tm,p8 v tm = tm.put 8 v)/\(∀ w tm,wantG o8 w tm = wantE (tmp tm 8) w)/\(∀ tm,g9 tm = tmp tm 9)/\(∀ v tm,p9 v tm = tm.put 9 v)/\(∀ w tm,wantG o9 w tm = wantE (tmp tm 9) w)/\(∀ tm,g10 tm = tmp tm 10)/\(∀ v tm,p10 v tm = tm.put 10 v)/\(∀ w tm,wantG o10 w tm = wantE (tmp tm 10) w)/\(∀ tm,g11 tm = tmp tm 11)/\(∀ v tm,p11 v tm = tm.put 11 v)/\(∀ w tm,wantG o11 w tm = wantE (tmp tm 11) w)/\(∀ tm,g12 tm = tmp tm 12)/\(∀ v tm,p12 v tm = tm.put 12 v)/\(∀ w tm,wantG o12 w tm = wantE (tmp tm 12) w)/\(∀ tm,g13 tm = tmp tm 13)/\(∀ v tm,p13 v tm = tm.put 13 v)/\(∀ w tm,wantG o13 w tm = wantE (tmp tm 13) w)/\(∀ tm,g14 tm = tmp tm 14)/\(∀ v tm,p14 v tm = tm.put 14 v)/\(∀ w tm,wantG o14 w tm = wantE (tmp tm 14) w)/\(∀ tm,g15 tm = tmp tm 15)/\(∀ v tm,p15 v tm = tm.put 15 v)/\(∀ w tm,wantG o15 w tm = wantE (tmp tm 15) w)/\(∀ tm,g16 tm = tmp tm 16)/\(∀ v tm,p16 v tm = tm.put 16 v)/\(∀ w tm,wantG o16 w tm = wantE (tmp tm 16) w)/\(∀ tm,g17 tm = tmp tm 17)/\(∀ v tm,p17 v tm = tm.put 17 v)/\(∀ w tm,wantG o17 w tm = wantE (tmp tm 17) w)/\(∀ tm,g18 tm = tmp tm 18)/\(∀ v tm,p18 v tm = tm.put 18 v)/\(∀ w tm,wantG o18 w tm = wantE (tmp tm 18) w)/\(∀ tm,g19 tm = tmp tm 19)/\(∀ v tm,p19 v tm = tm.put 19 v)/\(∀ w tm,wantG o19 w tm = wantE (tmp tm 19) w)/\(∀ tm,g20 tm = tmp tm 20)/\(∀ v tm,p20 v tm = tm.put 20 v)/\(∀ w tm,wantG o20 w tm = wantE (tmp tm 20) w)/\(∀ tm,g21 tm = tmp tm 21)/\(∀ v tm,p21 v tm = tm.put 21 v)/\(∀ w tm,wantG o21 w tm = wantE (tmp tm 21) w)/\(∀ tm,g22 tm = tmp tm 22)/\(∀ v tm,p22 v tm = tm.put 22 v)/\(∀ w tm,wantG o22 w tm = wantE (tmp tm 22) w)/\(∀ tm,g23 tm = tmp tm 23)/\(∀ v tm,p23 v tm = tm.put 23 v)/\(∀ w tm,wantG o23 w tm = wantE (tmp tm 23) w)/\(∀ tm,g24 tm = tmp tm 24)/\(∀ v tm,p24 v tm = tm.put 24 v)/\(∀ w tm,wantG o24 w tm = wantE (tmp tm 24) w)/\(∀ tm,g25 tm = tmp tm 25)/\(∀ v tm,p25 v tm = tm.put 25 v)/\(∀ w tm,wantG o25 w tm = wantE (tmp tm 25) w)/\(∀ tm,g26 tm = tmp tm 26)/\(∀ v tm,p26 v tm = tm.put 26 v)/\(∀ w tm,wantG o26 w tm = wantE (tmp tm 26) w):=⟨g0_t,p0_t,w0_t,g1_t,p1_t,w1_t,g2_t,p2_t,w2_t,g3_t,p3_t,w3_t,g4_t,p4_t,w4_t,g5_t,p5_t,w5_t,g6_t,p6_t,w6_t,g7_t,p7_t,w7_t,g8_t,p8_t,w8_t,g9_t,p9_t,w9_t,g10_t,p10_t,w10_t,g11_t,p11_t,w11_t,g12_t,p12_t,w12_t,g13_t,p13_t,w13_t,g14_t,p14_t,w14_t,g15_t,p15_t,w15_t,g16_t,p16_t,w16_t,g17_t,p17_t,w17_t,g18_t,p18_t,w18_t,g19_t,p19_t,w19_t,g20_t,p20_t,w20_t,g21_t,p21_t,w21_t,g22_t,p22_t,w22_t,g23_t,p23_t,w23_t,g24_t,p24_t,w24_t,g25_t,p25_t,w25_t,g26_t,p26_t,w26_t⟩
end
end Go.Ev

namespace Go.Ev
open Go.Proofs
set_option maxRecDepth 100000
noncomputable section
def F49ret : CF:=(retC TT [.cell 4 4])
def F49j0 (call round : Caller) (K : Nat) : CF:=
 storeK 1 g4 (constE (.bool false)) (dropS (F49ret))
def F49 (call round : Caller) (K : Nat) : FnT:=funC 14 (boxK 3 g1 (put p3 (allocK [(.bool false)] 4 (put p4 (mv g0 p7 (callK call 105 (fun tm=>[g7 tm]) (put p8 (rangeS TT call 49 14 none 0 (fun _=>badC) [(0,(F49j0 call round K))] F49ret ((F49j0 call round K))))))))))
theorem F49_eq (call round : Caller) (K : Nat) : funF TT call round K 49 = F49 call round K:=by kernel_rfl
def F49r0body (call round : Caller) (K l : Nat) : CF:=
 mv g6 p11 (load1K g3 (put p12 (intK gEql (bin TT .eql 3) g11 g12 (put p13 (condC g13 (storeK 1 g4 (constE (.bool true)) (dropS ((roundEnd l false .done (some .ret))))) ((roundEnd l true .ready none)))))))
def F49r0 (call round : Caller) (K l : Nat) : CF:=
 mv g10 p6 (beginC l (F49r0body call round K l))
theorem F49r0_eq (call round : Caller) (K l : Nat) : codeK TT call round K 49 14 (some l) (fun id=>roundEnd l false .done (some (.exit id))) (roundEnd l false .done (some .ret)) (rangeAt TT 49 0).2.2.1 [] (beginC l (codeK TT call round K 49 14 (some l) (fun id=>roundEnd l false .done (some (.exit id))) (roundEnd l false .done (some .ret)) (rangeAt TT 49 0).2.2.2 [] (roundEnd l true .ready none))) = F49r0 call round K l:=by kernel_rfl
def F149ret : CF:=ret0
def F149j1 (call round : Caller) (K : Nat) (ih0_ : CF) : CF:=
 intK gAdd (bin TT .add 3) g12 (constE (.int .i64 (.ofNat 1))) (put p26 (mv g26 p12 (ih0_)))
def F149j2 (call round : Caller) (K : Nat) (ih0_ : CF) : CF:=
 mv g12 p14 (ixSliK 1 g10 g12 (put p15 (load1K g15 (put p16 (allocK [(.int .i64 (.ofNat 0))] 3 (put p3 (storeK 1 g3 g14 (dropS (mv g16 p4 (mv g4 p17 (callK call 150 (fun tm=>[g17 tm]) (put p18 (rangeS TT call 149 27 none 0 (fun _=>badC) [(2,(F149j1 call round K ih0_)),(1,(F149j1 call round K ih0_)),(0,F149ret)] F149ret ((F149j1 call round K ih0_)))))))))))))))
def F149b3 (call round : Caller) (K : Nat) (ih0_ : CF) : CF:=
 intK gLss (bin TT .lss 3) g12 g11 (put p13 (condC g13 ((F149j2 call round K ih0_)) (F149ret)))
def F149 (call round : Caller) (K : Nat) : FnT:=funC 27 (boxK 142 g0 (put p2 (load1K g1 (put p7 (nilK g7 (put p8 (offK 6 g8 (put p9 (load1K g9 (put p10 (lenK g10 (put p11 (mv (constE (.int .i64 (.ofNat 0))) p12 (loopC (F149b3 call round K) K))))))))))))))
theorem F149_eq (call round : Caller) (K : Nat) : funF TT call round K 149 = F149 call round K:=by kernel_rfl
def F149r0body (call round : Caller) (K l : Nat) : CF:=
 load1K g2 (put p21 (load1K g3 (put p22 (mv g6 p23 (callVK call round g21 (fun tm=>[g22 tm,g23 tm]) (put p24 (notK g24 (put p25 (condC g25 ((roundEnd l false .done (some .ret))) ((roundEnd l true .ready none)))))))))))
def F149r0 (call round : Caller) (K l : Nat) : CF:=
 mv g20 p6 (beginC l (F149r0body call round K l))
theorem F149r0_eq (call round : Caller) (K l : Nat) : codeK TT call round K 149 27 (some l) (fun id=>roundEnd l false .done (some (.exit id))) (roundEnd l false .done (some .ret)) (rangeAt TT 149 0).2.2.1 [] (beginC l (codeK TT call round K 149 27 (some l) (fun id=>roundEnd l false .done (some (.exit id))) (roundEnd l false .done (some .ret)) (rangeAt TT 149 0).2.2.2 [] (roundEnd l true .ready none))) = F149r0 call round K l:=by kernel_rfl
end
end Go.Ev

namespace Go.Ev
open Go.Proofs
set_option maxRecDepth 100000
noncomputable section
def dispL : List (Nat × FT):=[(49,F49),(149,F149)]
def disp3 : Nat->Option FT:=fun f=>getP (pathOf f) (putFTs dispL)
end
theorem dispL_ok : AllFt TP dispL:=⟨FtOk.of TT_ok F49_eq,FtOk.of TT_ok F149_eq,trivial⟩
theorem disp3_ok : ∀ g F,disp3 g = some F->FtOk TP g F:=fun g F h=>putFTs_get dispL_ok (by rw [<-getP_eq]; exact h)
end Go.Ev

namespace Go.Ev
open Go.Proofs
set_option maxRecDepth 100000
noncomputable section
def crcCells : List EV:=[.int .u32 (.ofNat 0),.int .u32 (.ofNat 4067132163),.int .u32 (.ofNat 3778769143),.int .u32 (.ofNat 324072436),.int .u32 (.ofNat 3348797215),.int .u32 (.ofNat 904991772),.int .u32 (.ofNat 648144872),.int .u32 (.ofNat 3570033899),.int .u32 (.ofNat 2329499855),.int .u32 (.ofNat 2024987596),.int .u32 (.ofNat 1809983544),.int .u32 (.ofNat 2575936315),.int .u32 (.ofNat 1296289744),.int .u32 (.ofNat 3207089363),.int .u32 (.ofNat 2893594407),.int .u32 (.ofNat 1578318884),.int .u32 (.ofNat 274646895),.int .u32 (.ofNat 3795141740),.int .u32 (.ofNat 4049975192),.int .u32 (.ofNat 51262619),.int .u32 (.ofNat 3619967088),.int .u32 (.ofNat 632279923),.int .u32 (.ofNat 922689671),.int .u32 (.ofNat 3298075524),.int .u32 (.ofNat 2592579488),.int .u32 (.ofNat 1760304291),.int .u32 (.ofNat 2075979607),.int .u32 (.ofNat 2312596564),.int .u32 (.ofNat 1562183871),.int .u32 (.ofNat 2943781820),.int .u32 (.ofNat 3156637768),.int .u32 (.ofNat 1313733451),.int .u32 (.ofNat 549293790),.int .u32 (.ofNat 3537243613),.int .u32 (.ofNat 3246849577),.int .u32 (.ofNat 871202090),.int .u32 (.ofNat 3878099393),.int .u32 (.ofNat 357341890),.int .u32 (.ofNat 102525238),.int .u32 (.ofNat 4101499445),.int .u32 (.ofNat 2858735121),.int .u32 (.ofNat 1477399826),.int .u32 (.ofNat 1264559846),.int .u32 (.ofNat 3107202533),.int .u32 (.ofNat 1845379342),.int .u32 (.ofNat 2677391885),.int .u32 (.ofNat 2361733625),.int .u32 (.ofNat 2125378298),.int .u32 (.ofNat 820201905),.int .u32 (.ofNat 3263744690),.int .u32 (.ofNat 3520608582),.int .u32 (.ofNat 598981189),.int .u32 (.ofNat 4151959214),.int .u32 (.ofNat 85089709),.int .u32 (.ofNat 373468761),.int .u32 (.ofNat 3827903834),.int .u32 (.ofNat 3124367742),.int .u32 (.ofNat 1213305469),.int .u32 (.ofNat 1526817161),.int .u32 (.ofNat 2842354314),.int .u32 (.ofNat 2107672161),.int .u32 (.ofNat 2412447074),.int .u32 (.ofNat 2627466902),.int .u32 (.ofNat 1861252501),.int .u32 (.ofNat 1098587580),.int .u32 (.ofNat 3004210879),.int .u32 (.ofNat 2688576843),.int .u32 (.ofNat 1378610760),.int .u32 (.ofNat 2262928035),.int .u32 (.ofNat 1955203488),.int .u32 (.ofNat 1742404180),.int .u32 (.ofNat 2511436119),.int .u32 (.ofNat 3416409459),.int .u32 (.ofNat 969524848),.int .u32 (.ofNat 714683780),.int .u32 (.ofNat 3639785095),.int .u32 (.ofNat 205050476),.int .u32 (.ofNat 4266873199),.int .u32 (.ofNat 3976438427),.int .u32 (.ofNat 526918040),.int .u32 (.ofNat 1361435347),.int .u32 (.ofNat 2739821008),.int .u32 (.ofNat 2954799652),.int .u32 (.ofNat 1114974503),.int .u32 (.ofNat 2529119692),.int .u32 (.ofNat 1691668175),.int .u32 (.ofNat 2005155131),.int .u32 (.ofNat 2247081528),.int .u32 (.ofNat 3690758684),.int .u32 (.ofNat 697762079),.int .u32 (.ofNat 986182379),.int .u32 (.ofNat 3366744552),.int .u32 (.ofNat 476452099),.int .u32 (.ofNat 3993867776),.int .u32 (.ofNat 4250756596),.int .u32 (.ofNat 255256311),.int .u32 (.ofNat 1640403810),.int .u32 (.ofNat 2477592673),.int .u32 (.ofNat 2164122517),.int .u32 (.ofNat 1922457750),.int .u32 (.ofNat 2791048317),.int .u32 (.ofNat 1412925310),.int .u32 (.ofNat 1197962378),.int .u32 (.ofNat 3037525897),.int .u32 (.ofNat 3944729517),.int .u32 (.ofNat 427051182),.int .u32 (.ofNat 170179418),.int .u32 (.ofNat 4165941337),.int .u32 (.ofNat 746937522),.int .u32 (.ofNat 3740196785),.int .u32 (.ofNat 3451792453),.int .u32 (.ofNat 1070968646),.int .u32 (.ofNat 1905808397),.int .u32 (.ofNat 2213795598),.int .u32 (.ofNat 2426610938),.int .u32 (.ofNat 1657317369),.int .u32 (.ofNat 3053634322),.int .u32 (.ofNat 1147748369),.int .u32 (.ofNat 1463399397),.int .u32 (.ofNat 2773627110),.int .u32 (.ofNat 4215344322),.int .u32 (.ofNat 153784257),.int .u32 (.ofNat 444234805),.int .u32 (.ofNat 3893493558),.int .u32 (.ofNat 1021025245),.int .u32 (.ofNat 3467647198),.int .u32 (.ofNat 3722505002),.int .u32 (.ofNat 797665321),.int .u32 (.ofNat 2197175160),.int .u32 (.ofNat 1889384571),.int .u32 (.ofNat 1674398607),.int .u32 (.ofNat 2443626636),.int .u32 (.ofNat 1164749927),.int .u32 (.ofNat 3070701412),.int .u32 (.ofNat 2757221520),.int .u32 (.ofNat 1446797203),.int .u32 (.ofNat 137323447),.int .u32 (.ofNat 4198817972),.int .u32 (.ofNat 3910406976),.int .u32 (.ofNat 461344835),.int .u32 (.ofNat 3484808360),.int .u32 (.ofNat 1037989803),.int .u32 (.ofNat 781091935),.int .u32 (.ofNat 3705997148),.int .u32 (.ofNat 2460548119),.int .u32 (.ofNat 1623424788),.int .u32 (.ofNat 1939049696),.int .u32 (.ofNat 2180517859),.int .u32 (.ofNat 1429367560),.int .u32 (.ofNat 2807687179),.int .u32 (.ofNat 3020495871),.int .u32 (.ofNat 1180866812),.int .u32 (.ofNat 410100952),.int .u32 (.ofNat 3927582683),.int .u32 (.ofNat 4182430767),.int .u32 (.ofNat 186734380),.int .u32 (.ofNat 3756733383),.int .u32 (.ofNat 763408580),.int .u32 (.ofNat 1053836080),.int .u32 (.ofNat 3434856499),.int .u32 (.ofNat 2722870694),.int .u32 (.ofNat 1344288421),.int .u32 (.ofNat 1131464017),.int .u32 (.ofNat 2971354706),.int .u32 (.ofNat 1708204729),.int .u32 (.ofNat 2545590714),.int .u32 (.ofNat 2229949006),.int .u32 (.ofNat 1988219213),.int .u32 (.ofNat 680717673),.int .u32 (.ofNat 3673779818),.int .u32 (.ofNat 3383336350),.int .u32 (.ofNat 1002577565),.int .u32 (.ofNat 4010310262),.int .u32 (.ofNat 493091189),.int .u32 (.ofNat 238226049),.int .u32 (.ofNat 4233660802),.int .u32 (.ofNat 2987750089),.int .u32 (.ofNat 1082061258),.int .u32 (.ofNat 1395524158),.int .u32 (.ofNat 2705686845),.int .u32 (.ofNat 1972364758),.int .u32 (.ofNat 2279892693),.int .u32 (.ofNat 2494862625),.int .u32 (.ofNat 1725896226),.int .u32 (.ofNat 952904198),.int .u32 (.ofNat 3399985413),.int .u32 (.ofNat 3656866545),.int .u32 (.ofNat 731699698),.int .u32 (.ofNat 4283874585),.int .u32 (.ofNat 222117402),.int .u32 (.ofNat 510512622),.int .u32 (.ofNat 3959836397),.int .u32 (.ofNat 3280807620),.int .u32 (.ofNat 837199303),.int .u32 (.ofNat 582374963),.int .u32 (.ofNat 3504198960),.int .u32 (.ofNat 68661723),.int .u32 (.ofNat 4135334616),.int .u32 (.ofNat 3844915500),.int .u32 (.ofNat 390545967),.int .u32 (.ofNat 1230274059),.int .u32 (.ofNat 3141532936),.int .u32 (.ofNat 2825850620),.int .u32 (.ofNat 1510247935),.int .u32 (.ofNat 2395924756),.int .u32 (.ofNat 2091215383),.int .u32 (.ofNat 1878366691),.int .u32 (.ofNat 2644384480),.int .u32 (.ofNat 3553878443),.int .u32 (.ofNat 565732008),.int .u32 (.ofNat 854102364),.int .u32 (.ofNat 3229815391),.int .u32 (.ofNat 340358836),.int .u32 (.ofNat 3861050807),.int .u32 (.ofNat 4117890627),.int .u32 (.ofNat 119113024),.int .u32 (.ofNat 1493875044),.int .u32 (.ofNat 2875275879),.int .u32 (.ofNat 3090270611),.int .u32 (.ofNat 1247431312),.int .u32 (.ofNat 2660249211),.int .u32 (.ofNat 1828433272),.int .u32 (.ofNat 2141937292),.int .u32 (.ofNat 2378227087),.int .u32 (.ofNat 3811616794),.int .u32 (.ofNat 291187481),.int .u32 (.ofNat 34330861),.int .u32 (.ofNat 4032846830),.int .u32 (.ofNat 615137029),.int .u32 (.ofNat 3603020806),.int .u32 (.ofNat 3314634738),.int .u32 (.ofNat 939183345),.int .u32 (.ofNat 1776939221),.int .u32 (.ofNat 2609017814),.int .u32 (.ofNat 2295496738),.int .u32 (.ofNat 2058945313),.int .u32 (.ofNat 2926798794),.int .u32 (.ofNat 1545135305),.int .u32 (.ofNat 1330124605),.int .u32 (.ofNat 3173225534),.int .u32 (.ofNat 4084100981),.int .u32 (.ofNat 17165430),.int .u32 (.ofNat 307568514),.int .u32 (.ofNat 3762199681),.int .u32 (.ofNat 888469610),.int .u32 (.ofNat 3332340585),.int .u32 (.ofNat 3587147933),.int .u32 (.ofNat 665062302),.int .u32 (.ofNat 2042050490),.int .u32 (.ofNat 2346497209),.int .u32 (.ofNat 2559330125),.int .u32 (.ofNat 1793573966),.int .u32 (.ofNat 3190661285),.int .u32 (.ofNat 1279665062),.int .u32 (.ofNat 1595330642),.int .u32 (.ofNat 2910671697)]
def crcV : EV:=.agg crcCells
def hookCrc : FT:=fun _ _ _ args h=>@List.rec EV (fun _=>R) (some (crcV,h)) (fun _ _ _=>none) args
def crc_New (_ : Nat) (h : AHeap) : R:=some (crcV,h)
end
structure Agree (disp : Nat->Option FT) : Prop where
 plain : ∀ g,plainF g = true->disp g = disp3 g
 crc : disp 26 = some hookCrc
theorem crc_New_run {disp : Nat->Option FT} (H : Agree disp) {K d : Nat} (hd : 1<=d) (h : AHeap) : callC TT disp K d false 26 [] h = crc_New K h:=by
 obtain ⟨d,rfl⟩ : ∃ e,d = e + 1:=⟨d - 1,by omega⟩
 rw [callC_at H.crc]; rfl
noncomputable def bareF (g : Nat) : Bool:=cnd (plainF g) (match disp3 g with | none=>true | some _=>false) false
theorem Agree.bare {disp : Nat->Option FT} (H : Agree disp) {g : Nat} (e : bareF g = true) : disp g = none:=by
 obtain ⟨h1,h2⟩:=cnd_and' e
 rw [H.plain g h1]
 cases hx : disp3 g with
 | none=>rfl
 | some _=>rw [hx] at h2; cases h2
theorem runD {disp : Nat->Option FT} {g d K : Nat} {args : List EV} {h : AHeap} {X : R} {C : Caller} {B : CD} (hn : disp g = none) (hk : chkF TT g (lenR args) = true) (e : callC TT disp K d false = C)
 (hx : codeH TT C (callC TT disp K d false) (callC TT disp K d true) K (nOf TT g) (retOf TT g) .no (bodyOf TT g) [] (retOf TT g) = B) (hy : B (argsD args 0 u0) h = X) : callC TT disp K (d + 1) false g args h = X:=by
 have e0 : callC TT disp K (d + 1) false g args h = funF TT (callC TT disp K d false) (callC TT disp K d true) K g args h:=by
  have e : callC TT disp K (d + 1) false g args h = @Option.rec FT (fun _=>FnT) (funF TT (callC TT disp K d false) (callC TT disp K d true) K g) (fun F=>F (callC TT disp K d false) (callC TT disp K d true) K) (disp g) args h:=rfl
  rw [e,hn]
 rw [e0,funD_body hk]
 exact (congrArg (fun C=>codeH TT C (callC TT disp K d false) (callC TT disp K d true) K (nOf TT g) (retOf TT g) .no (bodyOf TT g) [] (retOf TT g) (argsD args 0 u0) h) e).trans ((congrFun (congrFun hx _) h).trans hy)
theorem runL {disp : Nat->Option FT} {g m d K : Nat} {args : List EV} {h : AHeap} {X : R} {C : Nat->Caller} {B : Nat->Caller->Caller->CD} (hn : disp g = none) (hd : m + 1<=d) (hk : chkF TT g (lenR args) = true)
 (e : ∀ d,m<=d->callC TT disp K d false = C d) (hx : ∀ d c r,codeH TT (C d) c r K (nOf TT g) (retOf TT g) .no (bodyOf TT g) [] (retOf TT g) = B d c r) (hy : ∀ d c r,B d c r (argsD args 0 u0) h = X) : callC TT disp K d false g args h = X:=by
 obtain ⟨d,rfl⟩ : ∃ e,d = e + 1:=⟨d - 1,by omega⟩
 exact runD hn hk (e d (Nat.le_of_succ_le_succ hd)) (hx _ _ _) (hy _ _ _)
end Go.Ev
