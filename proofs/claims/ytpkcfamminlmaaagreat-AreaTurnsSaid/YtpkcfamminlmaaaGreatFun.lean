import Derived.Test.YtpkcfamminlmaaaGreatTab
import Derived.Test.YtpkcfamminlmaaaGreatEvSix
set_option linter.unusedVariables false
set_option linter.unusedSimpArgs false
set_option linter.unusedSectionVars false
namespace Go.Ev
open Go.Proofs
set_option maxRecDepth 100000
noncomputable section
def o0:Ag->Option EV:=Tr.top
def g0:EF:=gO o0
def p0:PF:=Tr.Dp
theorem A7u(tm:Ag):g0 tm=tmp tm 0:=Dw (show o0=C9 (pathOf 0) by kernel_rfl) tm
theorem A7i(v:Option EV)(tm:Ag):p0 v tm=tm.put 0 v:=Dy (show p0=H8 (pathOf 0) by kernel_rfl) v tm
theorem A7m(w:Bool)(tm:Ag):B0 o0 w tm=Au (tmp tm 0) w:=Bo (show o0=C9 (pathOf 0) by kernel_rfl) w tm
def o1:Ag->Option EV:=Tr.Mj (Tr.top)
def g1:EF:=gO o1
def p1:PF:=Tr.Eg (Tr.Dp)
theorem A7q(tm:Ag):g1 tm=tmp tm 1:=Dw (show o1=C9 (pathOf 1) by kernel_rfl) tm
theorem A6z(v:Option EV)(tm:Ag):p1 v tm=tm.put 1 v:=Dy (show p1=H8 (pathOf 1) by kernel_rfl) v tm
theorem A7r(w:Bool)(tm:Ag):B0 o1 w tm=Au (tmp tm 1) w:=Bo (show o1=C9 (pathOf 1) by kernel_rfl) w tm
def o2:Ag->Option EV:=Tr.Qa (Tr.top)
def g2:EF:=gO o2
def p2:PF:=Tr.Gd (Tr.Dp)
theorem A6t(tm:Ag):g2 tm=tmp tm 2:=Dw (show o2=C9 (pathOf 2) by kernel_rfl) tm
theorem A7n(v:Option EV)(tm:Ag):p2 v tm=tm.put 2 v:=Dy (show p2=H8 (pathOf 2) by kernel_rfl) v tm
theorem A64(w:Bool)(tm:Ag):B0 o2 w tm=Au (tmp tm 2) w:=Bo (show o2=C9 (pathOf 2) by kernel_rfl) w tm
def o3:Ag->Option EV:=Tr.Mj (Tr.Mj (Tr.top))
def g3:EF:=gO o3
def p3:PF:=Tr.Eg (Tr.Eg (Tr.Dp))
theorem A60(tm:Ag):g3 tm=tmp tm 3:=Dw (show o3=C9 (pathOf 3) by kernel_rfl) tm
theorem A7p(v:Option EV)(tm:Ag):p3 v tm=tm.put 3 v:=Dy (show p3=H8 (pathOf 3) by kernel_rfl) v tm
theorem A7j(w:Bool)(tm:Ag):B0 o3 w tm=Au (tmp tm 3) w:=Bo (show o3=C9 (pathOf 3) by kernel_rfl) w tm
def o4:Ag->Option EV:=Tr.Qa (Tr.Mj (Tr.top))
def g4:EF:=gO o4
def p4:PF:=Tr.Gd (Tr.Eg (Tr.Dp))
theorem A7h(tm:Ag):g4 tm=tmp tm 4:=Dw (show o4=C9 (pathOf 4) by kernel_rfl) tm
theorem A7v(v:Option EV)(tm:Ag):p4 v tm=tm.put 4 v:=Dy (show p4=H8 (pathOf 4) by kernel_rfl) v tm
theorem A7k(w:Bool)(tm:Ag):B0 o4 w tm=Au (tmp tm 4) w:=Bo (show o4=C9 (pathOf 4) by kernel_rfl) w tm
def o5:Ag->Option EV:=Tr.Mj (Tr.Qa (Tr.top))
def g5:EF:=gO o5
def p5:PF:=Tr.Eg (Tr.Gd (Tr.Dp))
theorem A7t(tm:Ag):g5 tm=tmp tm 5:=Dw (show o5=C9 (pathOf 5) by kernel_rfl) tm
theorem A68(v:Option EV)(tm:Ag):p5 v tm=tm.put 5 v:=Dy (show p5=H8 (pathOf 5) by kernel_rfl) v tm
theorem A6v(w:Bool)(tm:Ag):B0 o5 w tm=Au (tmp tm 5) w:=Bo (show o5=C9 (pathOf 5) by kernel_rfl) w tm
def o6:Ag->Option EV:=Tr.Qa (Tr.Qa (Tr.top))
def g6:EF:=gO o6
def p6:PF:=Tr.Gd (Tr.Gd (Tr.Dp))
theorem A67(tm:Ag):g6 tm=tmp tm 6:=Dw (show o6=C9 (pathOf 6) by kernel_rfl) tm
theorem A63(v:Option EV)(tm:Ag):p6 v tm=tm.put 6 v:=Dy (show p6=H8 (pathOf 6) by kernel_rfl) v tm
theorem A62(w:Bool)(tm:Ag):B0 o6 w tm=Au (tmp tm 6) w:=Bo (show o6=C9 (pathOf 6) by kernel_rfl) w tm
def o7:Ag->Option EV:=Tr.Mj (Tr.Mj (Tr.Mj (Tr.top)))
def g7:EF:=gO o7
def p7:PF:=Tr.Eg (Tr.Eg (Tr.Eg (Tr.Dp)))
theorem A7o(tm:Ag):g7 tm=tmp tm 7:=Dw (show o7=C9 (pathOf 7) by kernel_rfl) tm
theorem A7f(v:Option EV)(tm:Ag):p7 v tm=tm.put 7 v:=Dy (show p7=H8 (pathOf 7) by kernel_rfl) v tm
theorem A66(w:Bool)(tm:Ag):B0 o7 w tm=Au (tmp tm 7) w:=Bo (show o7=C9 (pathOf 7) by kernel_rfl) w tm
def o8:Ag->Option EV:=Tr.Qa (Tr.Mj (Tr.Mj (Tr.top)))
def g8:EF:=gO o8
def p8:PF:=Tr.Gd (Tr.Eg (Tr.Eg (Tr.Dp)))
theorem A6w(tm:Ag):g8 tm=tmp tm 8:=Dw (show o8=C9 (pathOf 8) by kernel_rfl) tm
theorem A7l(v:Option EV)(tm:Ag):p8 v tm=tm.put 8 v:=Dy (show p8=H8 (pathOf 8) by kernel_rfl) v tm
theorem A6y(w:Bool)(tm:Ag):B0 o8 w tm=Au (tmp tm 8) w:=Bo (show o8=C9 (pathOf 8) by kernel_rfl) w tm
def o9:Ag->Option EV:=Tr.Mj (Tr.Qa (Tr.Mj (Tr.top)))
def g9:EF:=gO o9
def p9:PF:=Tr.Eg (Tr.Gd (Tr.Eg (Tr.Dp)))
theorem A69(tm:Ag):g9 tm=tmp tm 9:=Dw (show o9=C9 (pathOf 9) by kernel_rfl) tm
theorem A6s(v:Option EV)(tm:Ag):p9 v tm=tm.put 9 v:=Dy (show p9=H8 (pathOf 9) by kernel_rfl) v tm
theorem A7a(w:Bool)(tm:Ag):B0 o9 w tm=Au (tmp tm 9) w:=Bo (show o9=C9 (pathOf 9) by kernel_rfl) w tm
def o10:Ag->Option EV:=Tr.Qa (Tr.Qa (Tr.Mj (Tr.top)))
def g10:EF:=gO o10
def p10:PF:=Tr.Gd (Tr.Gd (Tr.Eg (Tr.Dp)))
theorem A4e(tm:Ag):g10 tm=tmp tm 10:=Dw (show o10=C9 (pathOf 10) by kernel_rfl) tm
theorem A59(v:Option EV)(tm:Ag):p10 v tm=tm.put 10 v:=Dy (show p10=H8 (pathOf 10) by kernel_rfl) v tm
theorem A4o(w:Bool)(tm:Ag):B0 o10 w tm=Au (tmp tm 10) w:=Bo (show o10=C9 (pathOf 10) by kernel_rfl) w tm
def o11:Ag->Option EV:=Tr.Mj (Tr.Mj (Tr.Qa (Tr.top)))
def g11:EF:=gO o11
def p11:PF:=Tr.Eg (Tr.Eg (Tr.Gd (Tr.Dp)))
theorem A5n(tm:Ag):g11 tm=tmp tm 11:=Dw (show o11=C9 (pathOf 11) by kernel_rfl) tm
theorem A32(v:Option EV)(tm:Ag):p11 v tm=tm.put 11 v:=Dy (show p11=H8 (pathOf 11) by kernel_rfl) v tm
theorem A57(w:Bool)(tm:Ag):B0 o11 w tm=Au (tmp tm 11) w:=Bo (show o11=C9 (pathOf 11) by kernel_rfl) w tm
def o12:Ag->Option EV:=Tr.Qa (Tr.Mj (Tr.Qa (Tr.top)))
def g12:EF:=gO o12
def p12:PF:=Tr.Gd (Tr.Eg (Tr.Gd (Tr.Dp)))
theorem A6h(tm:Ag):g12 tm=tmp tm 12:=Dw (show o12=C9 (pathOf 12) by kernel_rfl) tm
theorem A31(v:Option EV)(tm:Ag):p12 v tm=tm.put 12 v:=Dy (show p12=H8 (pathOf 12) by kernel_rfl) v tm
theorem A42(w:Bool)(tm:Ag):B0 o12 w tm=Au (tmp tm 12) w:=Bo (show o12=C9 (pathOf 12) by kernel_rfl) w tm
def o13:Ag->Option EV:=Tr.Mj (Tr.Qa (Tr.Qa (Tr.top)))
def g13:EF:=gO o13
def p13:PF:=Tr.Eg (Tr.Gd (Tr.Gd (Tr.Dp)))
theorem A5y(tm:Ag):g13 tm=tmp tm 13:=Dw (show o13=C9 (pathOf 13) by kernel_rfl) tm
theorem A54(v:Option EV)(tm:Ag):p13 v tm=tm.put 13 v:=Dy (show p13=H8 (pathOf 13) by kernel_rfl) v tm
theorem A5e(w:Bool)(tm:Ag):B0 o13 w tm=Au (tmp tm 13) w:=Bo (show o13=C9 (pathOf 13) by kernel_rfl) w tm
def o14:Ag->Option EV:=Tr.Qa (Tr.Qa (Tr.Qa (Tr.top)))
def g14:EF:=gO o14
def p14:PF:=Tr.Gd (Tr.Gd (Tr.Gd (Tr.Dp)))
theorem A6j(tm:Ag):g14 tm=tmp tm 14:=Dw (show o14=C9 (pathOf 14) by kernel_rfl) tm
theorem A44(v:Option EV)(tm:Ag):p14 v tm=tm.put 14 v:=Dy (show p14=H8 (pathOf 14) by kernel_rfl) v tm
theorem A49(w:Bool)(tm:Ag):B0 o14 w tm=Au (tmp tm 14) w:=Bo (show o14=C9 (pathOf 14) by kernel_rfl) w tm
def o15:Ag->Option EV:=Tr.Mj (Tr.Mj (Tr.Mj (Tr.Mj (Tr.top))))
def g15:EF:=gO o15
def p15:PF:=Tr.Eg (Tr.Eg (Tr.Eg (Tr.Eg (Tr.Dp))))
theorem A4u(tm:Ag):g15 tm=tmp tm 15:=Dw (show o15=C9 (pathOf 15) by kernel_rfl) tm
theorem A3y(v:Option EV)(tm:Ag):p15 v tm=tm.put 15 v:=Dy (show p15=H8 (pathOf 15) by kernel_rfl) v tm
theorem A6b(w:Bool)(tm:Ag):B0 o15 w tm=Au (tmp tm 15) w:=Bo (show o15=C9 (pathOf 15) by kernel_rfl) w tm
def o16:Ag->Option EV:=Tr.Qa (Tr.Mj (Tr.Mj (Tr.Mj (Tr.top))))
def g16:EF:=gO o16
def p16:PF:=Tr.Gd (Tr.Eg (Tr.Eg (Tr.Eg (Tr.Dp))))
theorem A4z(tm:Ag):g16 tm=tmp tm 16:=Dw (show o16=C9 (pathOf 16) by kernel_rfl) tm
theorem A5l(v:Option EV)(tm:Ag):p16 v tm=tm.put 16 v:=Dy (show p16=H8 (pathOf 16) by kernel_rfl) v tm
theorem A30(w:Bool)(tm:Ag):B0 o16 w tm=Au (tmp tm 16) w:=Bo (show o16=C9 (pathOf 16) by kernel_rfl) w tm
def o17:Ag->Option EV:=Tr.Mj (Tr.Qa (Tr.Mj (Tr.Mj (Tr.top))))
def g17:EF:=gO o17
def p17:PF:=Tr.Eg (Tr.Gd (Tr.Eg (Tr.Eg (Tr.Dp))))
theorem A4f(tm:Ag):g17 tm=tmp tm 17:=Dw (show o17=C9 (pathOf 17) by kernel_rfl) tm
theorem A45(v:Option EV)(tm:Ag):p17 v tm=tm.put 17 v:=Dy (show p17=H8 (pathOf 17) by kernel_rfl) v tm
theorem A4r(w:Bool)(tm:Ag):B0 o17 w tm=Au (tmp tm 17) w:=Bo (show o17=C9 (pathOf 17) by kernel_rfl) w tm
def o18:Ag->Option EV:=Tr.Qa (Tr.Qa (Tr.Mj (Tr.Mj (Tr.top))))
def g18:EF:=gO o18
def p18:PF:=Tr.Gd (Tr.Gd (Tr.Eg (Tr.Eg (Tr.Dp))))
theorem A40(tm:Ag):g18 tm=tmp tm 18:=Dw (show o18=C9 (pathOf 18) by kernel_rfl) tm
theorem A5d(v:Option EV)(tm:Ag):p18 v tm=tm.put 18 v:=Dy (show p18=H8 (pathOf 18) by kernel_rfl) v tm
theorem A56(w:Bool)(tm:Ag):B0 o18 w tm=Au (tmp tm 18) w:=Bo (show o18=C9 (pathOf 18) by kernel_rfl) w tm
def o19:Ag->Option EV:=Tr.Mj (Tr.Mj (Tr.Qa (Tr.Mj (Tr.top))))
def g19:EF:=gO o19
def p19:PF:=Tr.Eg (Tr.Eg (Tr.Gd (Tr.Eg (Tr.Dp))))
theorem A6c(tm:Ag):g19 tm=tmp tm 19:=Dw (show o19=C9 (pathOf 19) by kernel_rfl) tm
theorem A4m(v:Option EV)(tm:Ag):p19 v tm=tm.put 19 v:=Dy (show p19=H8 (pathOf 19) by kernel_rfl) v tm
theorem A51(w:Bool)(tm:Ag):B0 o19 w tm=Au (tmp tm 19) w:=Bo (show o19=C9 (pathOf 19) by kernel_rfl) w tm
def o20:Ag->Option EV:=Tr.Qa (Tr.Mj (Tr.Qa (Tr.Mj (Tr.top))))
def g20:EF:=gO o20
def p20:PF:=Tr.Gd (Tr.Eg (Tr.Gd (Tr.Eg (Tr.Dp))))
theorem A33(tm:Ag):g20 tm=tmp tm 20:=Dw (show o20=C9 (pathOf 20) by kernel_rfl) tm
theorem A6p(v:Option EV)(tm:Ag):p20 v tm=tm.put 20 v:=Dy (show p20=H8 (pathOf 20) by kernel_rfl) v tm
theorem A4i(w:Bool)(tm:Ag):B0 o20 w tm=Au (tmp tm 20) w:=Bo (show o20=C9 (pathOf 20) by kernel_rfl) w tm
def o21:Ag->Option EV:=Tr.Mj (Tr.Qa (Tr.Qa (Tr.Mj (Tr.top))))
def g21:EF:=gO o21
def p21:PF:=Tr.Eg (Tr.Gd (Tr.Gd (Tr.Eg (Tr.Dp))))
theorem A6m(tm:Ag):g21 tm=tmp tm 21:=Dw (show o21=C9 (pathOf 21) by kernel_rfl) tm
theorem A4w(v:Option EV)(tm:Ag):p21 v tm=tm.put 21 v:=Dy (show p21=H8 (pathOf 21) by kernel_rfl) v tm
theorem A6d(w:Bool)(tm:Ag):B0 o21 w tm=Au (tmp tm 21) w:=Bo (show o21=C9 (pathOf 21) by kernel_rfl) w tm
def o22:Ag->Option EV:=Tr.Qa (Tr.Qa (Tr.Qa (Tr.Mj (Tr.top))))
def g22:EF:=gO o22
def p22:PF:=Tr.Gd (Tr.Gd (Tr.Gd (Tr.Eg (Tr.Dp))))
theorem A39(tm:Ag):g22 tm=tmp tm 22:=Dw (show o22=C9 (pathOf 22) by kernel_rfl) tm
theorem A58(v:Option EV)(tm:Ag):p22 v tm=tm.put 22 v:=Dy (show p22=H8 (pathOf 22) by kernel_rfl) v tm
theorem A5p(w:Bool)(tm:Ag):B0 o22 w tm=Au (tmp tm 22) w:=Bo (show o22=C9 (pathOf 22) by kernel_rfl) w tm
def o23:Ag->Option EV:=Tr.Mj (Tr.Mj (Tr.Mj (Tr.Qa (Tr.top))))
def g23:EF:=gO o23
def p23:PF:=Tr.Eg (Tr.Eg (Tr.Eg (Tr.Gd (Tr.Dp))))
theorem A48(tm:Ag):g23 tm=tmp tm 23:=Dw (show o23=C9 (pathOf 23) by kernel_rfl) tm
theorem A36(v:Option EV)(tm:Ag):p23 v tm=tm.put 23 v:=Dy (show p23=H8 (pathOf 23) by kernel_rfl) v tm
theorem A6r(w:Bool)(tm:Ag):B0 o23 w tm=Au (tmp tm 23) w:=Bo (show o23=C9 (pathOf 23) by kernel_rfl) w tm
def o24:Ag->Option EV:=Tr.Qa (Tr.Mj (Tr.Mj (Tr.Qa (Tr.top))))
def g24:EF:=gO o24
def p24:PF:=Tr.Gd (Tr.Eg (Tr.Eg (Tr.Gd (Tr.Dp))))
theorem A4t(tm:Ag):g24 tm=tmp tm 24:=Dw (show o24=C9 (pathOf 24) by kernel_rfl) tm
theorem A5g(v:Option EV)(tm:Ag):p24 v tm=tm.put 24 v:=Dy (show p24=H8 (pathOf 24) by kernel_rfl) v tm
theorem A5q(w:Bool)(tm:Ag):B0 o24 w tm=Au (tmp tm 24) w:=Bo (show o24=C9 (pathOf 24) by kernel_rfl) w tm
def o25:Ag->Option EV:=Tr.Mj (Tr.Qa (Tr.Mj (Tr.Qa (Tr.top))))
def g25:EF:=gO o25
def p25:PF:=Tr.Eg (Tr.Gd (Tr.Eg (Tr.Gd (Tr.Dp))))
theorem A6o(tm:Ag):g25 tm=tmp tm 25:=Dw (show o25=C9 (pathOf 25) by kernel_rfl) tm
theorem A34(v:Option EV)(tm:Ag):p25 v tm=tm.put 25 v:=Dy (show p25=H8 (pathOf 25) by kernel_rfl) v tm
theorem A4c(w:Bool)(tm:Ag):B0 o25 w tm=Au (tmp tm 25) w:=Bo (show o25=C9 (pathOf 25) by kernel_rfl) w tm
def o26:Ag->Option EV:=Tr.Qa (Tr.Qa (Tr.Mj (Tr.Qa (Tr.top))))
def g26:EF:=gO o26
def p26:PF:=Tr.Gd (Tr.Gd (Tr.Eg (Tr.Gd (Tr.Dp))))
theorem A47(tm:Ag):g26 tm=tmp tm 26:=Dw (show o26=C9 (pathOf 26) by kernel_rfl) tm
theorem A5t(v:Option EV)(tm:Ag):p26 v tm=tm.put 26 v:=Dy (show p26=H8 (pathOf 26) by kernel_rfl) v tm
theorem A5c(w:Bool)(tm:Ag):B0 o26 w tm=Au (tmp tm 26) w:=Bo (show o26=C9 (pathOf 26) by kernel_rfl) w tm
def o27:Ag->Option EV:=Tr.Mj (Tr.Mj (Tr.Qa (Tr.Qa (Tr.top))))
def g27:EF:=gO o27
def p27:PF:=Tr.Eg (Tr.Eg (Tr.Gd (Tr.Gd (Tr.Dp))))
theorem A4p(tm:Ag):g27 tm=tmp tm 27:=Dw (show o27=C9 (pathOf 27) by kernel_rfl) tm
theorem A6f(v:Option EV)(tm:Ag):p27 v tm=tm.put 27 v:=Dy (show p27=H8 (pathOf 27) by kernel_rfl) v tm
theorem A4j(w:Bool)(tm:Ag):B0 o27 w tm=Au (tmp tm 27) w:=Bo (show o27=C9 (pathOf 27) by kernel_rfl) w tm
def o28:Ag->Option EV:=Tr.Qa (Tr.Mj (Tr.Qa (Tr.Qa (Tr.top))))
def g28:EF:=gO o28
def p28:PF:=Tr.Gd (Tr.Eg (Tr.Gd (Tr.Gd (Tr.Dp))))
theorem A41(tm:Ag):g28 tm=tmp tm 28:=Dw (show o28=C9 (pathOf 28) by kernel_rfl) tm
theorem A6n(v:Option EV)(tm:Ag):p28 v tm=tm.put 28 v:=Dy (show p28=H8 (pathOf 28) by kernel_rfl) v tm
theorem A5j(w:Bool)(tm:Ag):B0 o28 w tm=Au (tmp tm 28) w:=Bo (show o28=C9 (pathOf 28) by kernel_rfl) w tm
def o29:Ag->Option EV:=Tr.Mj (Tr.Qa (Tr.Qa (Tr.Qa (Tr.top))))
def g29:EF:=gO o29
def p29:PF:=Tr.Eg (Tr.Gd (Tr.Gd (Tr.Gd (Tr.Dp))))
theorem A4b(tm:Ag):g29 tm=tmp tm 29:=Dw (show o29=C9 (pathOf 29) by kernel_rfl) tm
theorem A6a(v:Option EV)(tm:Ag):p29 v tm=tm.put 29 v:=Dy (show p29=H8 (pathOf 29) by kernel_rfl) v tm
theorem A46(w:Bool)(tm:Ag):B0 o29 w tm=Au (tmp tm 29) w:=Bo (show o29=C9 (pathOf 29) by kernel_rfl) w tm
def o30:Ag->Option EV:=Tr.Qa (Tr.Qa (Tr.Qa (Tr.Qa (Tr.top))))
def g30:EF:=gO o30
def p30:PF:=Tr.Gd (Tr.Gd (Tr.Gd (Tr.Gd (Tr.Dp))))
theorem A6l(tm:Ag):g30 tm=tmp tm 30:=Dw (show o30=C9 (pathOf 30) by kernel_rfl) tm
theorem A6e(v:Option EV)(tm:Ag):p30 v tm=tm.put 30 v:=Dy (show p30=H8 (pathOf 30) by kernel_rfl) v tm
theorem A37(w:Bool)(tm:Ag):B0 o30 w tm=Au (tmp tm 30) w:=Bo (show o30=C9 (pathOf 30) by kernel_rfl) w tm
def o31:Ag->Option EV:=Tr.Mj (Tr.Mj (Tr.Mj (Tr.Mj (Tr.Mj (Tr.top)))))
def g31:EF:=gO o31
def p31:PF:=Tr.Eg (Tr.Eg (Tr.Eg (Tr.Eg (Tr.Eg (Tr.Dp)))))
theorem A52(tm:Ag):g31 tm=tmp tm 31:=Dw (show o31=C9 (pathOf 31) by kernel_rfl) tm
theorem A5h(v:Option EV)(tm:Ag):p31 v tm=tm.put 31 v:=Dy (show p31=H8 (pathOf 31) by kernel_rfl) v tm
theorem A4l(w:Bool)(tm:Ag):B0 o31 w tm=Au (tmp tm 31) w:=Bo (show o31=C9 (pathOf 31) by kernel_rfl) w tm
def o32:Ag->Option EV:=Tr.Qa (Tr.Mj (Tr.Mj (Tr.Mj (Tr.Mj (Tr.top)))))
def g32:EF:=gO o32
def p32:PF:=Tr.Gd (Tr.Eg (Tr.Eg (Tr.Eg (Tr.Eg (Tr.Dp)))))
theorem A4a(tm:Ag):g32 tm=tmp tm 32:=Dw (show o32=C9 (pathOf 32) by kernel_rfl) tm
theorem A5w(v:Option EV)(tm:Ag):p32 v tm=tm.put 32 v:=Dy (show p32=H8 (pathOf 32) by kernel_rfl) v tm
theorem A5u(w:Bool)(tm:Ag):B0 o32 w tm=Au (tmp tm 32) w:=Bo (show o32=C9 (pathOf 32) by kernel_rfl) w tm
def o33:Ag->Option EV:=Tr.Mj (Tr.Qa (Tr.Mj (Tr.Mj (Tr.Mj (Tr.top)))))
def g33:EF:=gO o33
def p33:PF:=Tr.Eg (Tr.Gd (Tr.Eg (Tr.Eg (Tr.Eg (Tr.Dp)))))
theorem A55(tm:Ag):g33 tm=tmp tm 33:=Dw (show o33=C9 (pathOf 33) by kernel_rfl) tm
theorem A5m(v:Option EV)(tm:Ag):p33 v tm=tm.put 33 v:=Dy (show p33=H8 (pathOf 33) by kernel_rfl) v tm
theorem A35(w:Bool)(tm:Ag):B0 o33 w tm=Au (tmp tm 33) w:=Bo (show o33=C9 (pathOf 33) by kernel_rfl) w tm
def o34:Ag->Option EV:=Tr.Qa (Tr.Qa (Tr.Mj (Tr.Mj (Tr.Mj (Tr.top)))))
def g34:EF:=gO o34
def p34:PF:=Tr.Gd (Tr.Gd (Tr.Eg (Tr.Eg (Tr.Eg (Tr.Dp)))))
theorem A5x(tm:Ag):g34 tm=tmp tm 34:=Dw (show o34=C9 (pathOf 34) by kernel_rfl) tm
theorem A4y(v:Option EV)(tm:Ag):p34 v tm=tm.put 34 v:=Dy (show p34=H8 (pathOf 34) by kernel_rfl) v tm
theorem A5o(w:Bool)(tm:Ag):B0 o34 w tm=Au (tmp tm 34) w:=Bo (show o34=C9 (pathOf 34) by kernel_rfl) w tm
def o35:Ag->Option EV:=Tr.Mj (Tr.Mj (Tr.Qa (Tr.Mj (Tr.Mj (Tr.top)))))
def g35:EF:=gO o35
def p35:PF:=Tr.Eg (Tr.Eg (Tr.Gd (Tr.Eg (Tr.Eg (Tr.Dp)))))
theorem A38(tm:Ag):g35 tm=tmp tm 35:=Dw (show o35=C9 (pathOf 35) by kernel_rfl) tm
theorem A6k(v:Option EV)(tm:Ag):p35 v tm=tm.put 35 v:=Dy (show p35=H8 (pathOf 35) by kernel_rfl) v tm
theorem A4s(w:Bool)(tm:Ag):B0 o35 w tm=Au (tmp tm 35) w:=Bo (show o35=C9 (pathOf 35) by kernel_rfl) w tm
theorem tt0:(∀ tm,g0 tm=tmp tm 0)/\(∀ v tm,p0 v tm=tm.put 0 v)/\(∀ w tm,B0 o0 w tm=Au (tmp tm 0) w)/\(∀ tm,g1 tm=tmp tm 1)/\(∀ v tm,p1 v tm=tm.put 1 v)/\(∀ w tm,B0 o1 w tm=Au (tmp tm 1) w)/\(∀ tm,g2 tm=tmp tm 2)/\(∀ v tm,p2 v tm=tm.put 2 v)/\(∀ w tm,B0 o2 w tm=Au (tmp tm 2) w)/\(∀ tm,g3 tm=tmp tm 3)/\(∀ v tm,p3 v tm=tm.put 3 v)/\(∀ w tm,B0 o3 w tm=Au (tmp tm 3) w)/\(∀ tm,g4 tm=tmp tm 4)/\(∀ v tm,p4 v tm=tm.put 4 v)/\(∀ w tm,B0 o4 w tm=Au (tmp tm 4) w)/\(∀ tm,g5 tm=tmp tm 5)/\(∀ v tm,p5 v tm=tm.put 5 v)/\(∀ w tm,B0 o5 w tm=Au (tmp tm 5) w)/\(∀ tm,g6 tm=tmp tm 6)/\(∀ v tm,p6 v tm=tm.put 6 v)/\(∀ w tm,B0 o6 w tm=Au (tmp tm 6) w)/\(∀ tm,g7 tm=tmp tm 7)/\(∀ v tm,p7 v tm=tm.put 7 v)/\(∀ w tm,B0 o7 w tm=Au (tmp tm 7) w)/\(∀ tm,g8 tm=tmp tm 8)/\(∀ v tm,p8 v tm=tm.put 8 v)/\(∀ w tm,B0 o8 w tm=Au (tmp tm 8) w)/\(∀ tm,g9 tm=tmp tm 9)/\(∀ v tm,p9 v tm=tm.put 9 v)/\(∀ w tm,B0 o9 w tm=Au (tmp tm 9) w)/\(∀ tm,g10 tm=tmp tm 10)/\(∀ v tm,p10 v tm=tm.put 10 v)/\(∀ w tm,B0 o10 w tm=Au (tmp tm 10) w)/\(∀ tm,g11 tm=tmp tm 11)/\(∀ v tm,p11 v tm=tm.put 11 v)/\(∀ w tm,B0 o11 w tm=Au (tmp tm 11) w)/\(∀ tm,g12 tm=tmp tm 12)/\(∀ v tm,p12 v tm=tm.put 12 v)/\(∀ w tm,B0 o12 w tm=Au (tmp tm 12) w)/\(∀ tm,g13 tm=tmp tm 13)/\(∀ v tm,p13 v tm=tm.put 13 v)/\(∀ w tm,B0 o13 w tm=Au (tmp tm 13) w)/\(∀ tm,g14 tm=tmp tm 14)/\(∀ v tm,p14 v tm=tm.put 14 v)/\(∀ w tm,B0 o14 w tm=Au (tmp tm 14) w)/\(∀ tm,g15 tm=tmp tm 15)/\(∀ v tm,p15 v tm=tm.put 15 v)/\(∀ w tm,B0 o15 w tm=Au (tmp tm 15) w)/\(∀ tm,g16 tm=tmp tm 16)/\(∀ v tm,p16 v tm=tm.put 16 v)/\(∀ w tm,B0 o16 w tm=Au (tmp tm 16) w)/\(∀ tm,g17 tm=tmp tm 17)/\(∀ v tm,p17 v tm=tm.put 17 v)/\(∀ w tm,B0 o17 w tm=Au (tmp tm 17) w)/\(∀ tm,g18 tm=tmp tm 18)/\(∀ v tm,p18 v tm=tm.put 18 v)/\(∀ w tm,B0 o18 w tm=Au (tmp tm 18) w)/\(∀ tm,g19 tm=tmp tm 19)/\(∀ v tm,p19 v tm=tm.put 19 v)/\(∀ w tm,B0 o19 w tm=Au (tmp tm 19) w)/\(∀ tm,g20 tm=tmp tm 20)/\(∀ v tm,p20 v tm=tm.put 20 v)/\(∀ w tm,B0 o20 w tm=Au (tmp tm 20) w)/\(∀ tm,g21 tm=tmp tm 21)/\(∀ v tm,p21 v tm=tm.put 21 v)/\(∀ w tm,B0 o21 w tm=Au (tmp tm 21) w)/\(∀ tm,g22 tm=tmp tm 22)/\(∀ v tm,p22 v tm=tm.put 22 v)/\(∀ w tm,B0 o22 w tm=Au (tmp tm 22) w)/\(∀ tm,g23 tm=tmp tm 23)/\(∀ v tm,p23 v tm=tm.put 23 v)/\(∀ w tm,B0 o23 w tm=Au (tmp tm 23) w)/\(∀ tm,g24 tm=tmp tm 24)/\(∀ v tm,p24 v tm=tm.put 24 v)/\(∀ w tm,B0 o24 w tm=Au (tmp tm 24) w)/\(∀ tm,g25 tm=tmp tm 25)/\(∀ v tm,p25 v tm=tm.put 25 v)/\(∀ w tm,B0 o25 w tm=Au (tmp tm 25) w)/\(∀ tm,g26 tm=tmp tm 26)/\(∀ v tm,p26 v tm=tm.put 26 v)/\(∀ w tm,B0 o26 w tm=Au (tmp tm 26) w)/\(∀ tm,g27 tm=tmp tm 27)/\(∀ v tm,p27 v tm=tm.put 27 v)/\(∀ w tm,B0 o27 w tm=Au (tmp tm 27) w)/\(∀ tm,g28 tm=tmp tm 28)/\(∀ v tm,p28 v tm=tm.put 28 v)/\(∀ w tm,B0 o28 w tm=Au (tmp tm 28) w)/\(∀ tm,g29 tm=tmp tm 29)/\(∀ v tm,p29 v tm=tm.put 29 v)/\(∀ w tm,B0 o29 w tm=Au (tmp tm 29) w)/\(∀ tm,g30 tm=tmp tm 30)/\(∀ v tm,p30 v tm=tm.put 30 v)/\(∀ w tm,B0 o30 w tm=Au (tmp tm 30) w)/\(∀ tm,g31 tm=tmp tm 31)/\(∀ v tm,p31 v tm=tm.put 31 v)/\(∀ w tm,B0 o31 w tm=Au (tmp tm 31) w):=⟨A7u,A7i,A7m,A7q,A6z,A7r,A6t,A7n,A64,A60,A7p,A7j,A7h,A7v,A7k,A7t,A68,A6v,A67,A63,A62,A7o,A7f,A66,A6w,A7l,A6y,A69,A6s,A7a,A4e,A59,A4o,A5n,A32,A57,A6h,A31,A42,A5y,A54,A5e,A6j,A44,A49,A4u,A3y,A6b,A4z,A5l,A30,A4f,A45,A4r,A40,A5d,A56,A6c,A4m,A51,A33,A6p,A4i,A6m,A4w,A6d,A39,A58,A5p,A48,A36,A6r,A4t,A5g,A5q,A6o,A34,A4c,A47,A5t,A5c,A4p,A6f,A4j,A41,A6n,A5j,A4b,A6a,A46,A6l,A6e,A37,A52,A5h,A4l⟩
theorem tt1:(∀ tm,g32 tm=tmp tm 32)/\(∀ v tm,p32 v tm=tm.put 32 v)/\(∀ w tm,B0 o32 w tm=Au (tmp tm 32) w)/\(∀ tm,g33 tm=tmp tm 33)/\(∀ v tm,p33 v tm=tm.put 33 v)/\(∀ w tm,B0 o33 w tm=Au (tmp tm 33) w)/\(∀ tm,g34 tm=tmp tm 34)/\(∀ v tm,p34 v tm=tm.put 34 v)/\(∀ w tm,B0 o34 w tm=Au (tmp tm 34) w)/\(∀ tm,g35 tm=tmp tm 35)/\(∀ v tm,p35 v tm=tm.put 35 v)/\(∀ w tm,B0 o35 w tm=Au (tmp tm 35) w):=⟨A4a,A5w,A5u,A55,A5m,A35,A5x,A4y,A5o,A38,A6k,A4s⟩
end
end Go.Ev

namespace Go.Ev
open Go.Proofs
set_option maxRecDepth 100000
noncomputable section
def Anu:CF:=(Agw TT [.cell 4 4])
def Aus(call round:Ac)(K:Nat):CF:=
 Xw 1 g4 (Lf (.bool false)) (Ah4 (Anu))
def F49(call round:Ac)(K:Nat):FnT:=Ase 14 (A0c 3 g1 (put p3 (Agg [(.bool false)] 4 (put p4 (mv g0 p7 (Ahd call 105 (fun tm=>[g7 tm]) (put p8 (Ac1 TT call 49 14 none 0 (fun _=>C3) [(0,(Aus call round K))] Anu ((Aus call round K))))))))))
theorem A26(call round:Ac)(K:Nat):Ab5 TT call round K 49=F49 call round K:=by kernel_rfl
def Agi(call round:Ac)(K l:Nat):CF:=
 mv g6 p11 (L9 g3 (put p12 (Apb Jg (bin TT .eql 3) g11 g12 (put p13 (Aer g13 (Xw 1 g4 (Lf (.bool true)) (Ah4 ((Bi l false .done (some .ret))))) ((Bi l true .ready none)))))))
def Azc(call round:Ac)(K l:Nat):CF:=
 mv g10 p6 (Px l (Agi call round K l))
theorem Az8(call round:Ac)(K l:Nat):Mg TT call round K 49 14 (some l) (fun id=>Bi l false .done (some (.exit id))) (Bi l false .done (some .ret)) (Cs TT 49 0).2.2.1 [] (Px l (Mg TT call round K 49 14 (some l) (fun id=>Bi l false .done (some (.exit id))) (Bi l false .done (some .ret)) (Cs TT 49 0).2.2.2 [] (Bi l true .ready none)))=Azc call round K l:=by kernel_rfl
def Xc:CF:=(Agw TT [.cell 2 4])
def Aub(call round:Ac)(K:Nat):CF:=
 Xw 1 g2 (Lf (.bool true)) (Ah4 (Xc))
def Axq(call round:Ac)(K:Nat):CF:=
 Akw 3 g1 (put p26 (L9 g26 (put p27 (Ahd call 115 (fun tm=>[g27 tm]) (put p28 (Ac1 TT call 64 36 none 0 (fun _=>C3) [(0,(Aub call round K))] Xc ((Aub call round K))))))))
def Aur(call round:Ac)(K:Nat):CF:=
 Apv g20 (Lf (.bool true)) g24 (put p25 (Aer g25 (Xw 1 g2 (Lf (.bool false)) (Ah4 (Xc))) ((Axq call round K))))
def Au2(call round:Ac)(K:Nat):CF:=
 Apv g14 (Lf (.bool true)) g18 (put p19 (mv g19 p20 (Aoo (B0 o20 false) (Akw 2 g1 (put p21 (L9 g21 (put p22 (Ahd call 114 (fun tm=>[g22 tm,(Lf (.int .i64 (.ofNat 281474976710655))) tm]) (put p23 (Axb g23 (put p24 ((Aur call round K)))))))))) (put p21 (put p22 (put p23 (put p24 ((Aur call round K)) (.tuple [])) (.tuple [])) (.tuple [])) (.tuple [])))))
def Auq(call round:Ac)(K:Nat):CF:=
 Apv g8 (Lf (.bool true)) g12 (put p13 (mv g13 p14 (Aoo (B0 o14 false) (Akw 1 g1 (put p15 (L9 g15 (put p16 (Ahd call 114 (fun tm=>[g16 tm,(Lf (.int .i64 (.ofNat 4294967295))) tm]) (put p17 (Axb g17 (put p18 ((Au2 call round K)))))))))) (put p15 (put p16 (put p17 (put p18 ((Au2 call round K)) (.tuple [])) (.tuple [])) (.tuple [])) (.tuple [])))))
def F64(call round:Ac)(K:Nat):FnT:=Ase 36 (A0c 60 g0 (put p1 (Agg [(.bool false)] 4 (put p2 (Akw 3 g1 (put p5 (L9 g5 (put p6 (Apb Jg (bin TT .eql 52) g6 (Lf .Da) (put p7 (mv g7 p8 (Aoo (B0 o8 false) (Akw 0 g1 (put p9 (L9 g9 (put p10 (Ahd call 114 (fun tm=>[g10 tm,(Lf (.int .i64 (.ofNat 281474976710655))) tm]) (put p11 (Axb g11 (put p12 ((Auq call round K)))))))))) (put p9 (put p10 (put p11 (put p12 ((Auq call round K)) (.tuple [])) (.tuple [])) (.tuple [])) (.tuple []))))))))))))))
theorem A3b(call round:Ac)(K:Nat):Ab5 TT call round K 64=F64 call round K:=by kernel_rfl
def Agj(call round:Ac)(K l:Nat):CF:=
 Akw 4 g4 (put p31 (L9 g31 (put p32 (Akw 2 g1 (put p33 (L9 g33 (put p34 (Apb Wa (bin TT .geq 3) g32 g34 (put p35 (Aer g35 (Xw 1 g2 (Lf (.bool false)) (Ah4 ((Bi l false .done (some .ret))))) ((Bi l true .ready none))))))))))))
def Aya(call round:Ac)(K l:Nat):CF:=
 Agg [(.int .i64 (.ofNat 0)),(.int .i64 (.ofNat 0)),(.int .i64 (.ofNat 0)),(.int .i64 (.ofNat 0)),(.int .i64 (.ofNat 0)),(.int .i64 (.ofNat 0))] 83 (put p4 (Xw 6 g4 g30 (Ah4 (Px l (Agj call round K l)))))
theorem A0h(call round:Ac)(K l:Nat):Mg TT call round K 64 36 (some l) (fun id=>Bi l false .done (some (.exit id))) (Bi l false .done (some .ret)) (Cs TT 64 0).2.2.1 [] (Px l (Mg TT call round K 64 36 (some l) (fun id=>Bi l false .done (some (.exit id))) (Bi l false .done (some .ret)) (Cs TT 64 0).2.2.2 [] (Bi l true .ready none)))=Aya call round K l:=by kernel_rfl
def W5:CF:=A4v
def Ai1(call round:Ac)(K:Nat)(ih0_:CF):CF:=
 Apb Hh (bin TT .add 3) g12 (Lf (.int .i64 (.ofNat 1))) (put p26 (mv g26 p12 (ih0_)))
def Asp(call round:Ac)(K:Nat)(ih0_:CF):CF:=
 mv g12 p14 (Ajj 1 g10 g12 (put p15 (L9 g15 (put p16 (Agg [(.int .i64 (.ofNat 0))] 3 (put p3 (Xw 1 g3 g14 (Ah4 (mv g16 p4 (mv g4 p17 (Ahd call 150 (fun tm=>[g17 tm]) (put p18 (Ac1 TT call 149 27 none 0 (fun _=>C3) [(2,(Ai1 call round K ih0_)),(1,(Ai1 call round K ih0_)),(0,W5)] W5 ((Ai1 call round K ih0_)))))))))))))))
def Ar8(call round:Ac)(K:Nat)(ih0_:CF):CF:=
 Apb G4 (bin TT .lss 3) g12 g11 (put p13 (Aer g13 ((Asp call round K ih0_)) (W5)))
def A0v(call round:Ac)(K:Nat):FnT:=Ase 27 (A0c 142 g0 (put p2 (L9 g1 (put p7 (A3s g7 (put p8 (Akw 6 g8 (put p9 (L9 g9 (put p10 (A3l g10 (put p11 (mv (Lf (.int .i64 (.ofNat 0))) p12 (Ahv (Ar8 call round K) K))))))))))))))
theorem A1z(call round:Ac)(K:Nat):Ab5 TT call round K 149=A0v call round K:=by kernel_rfl
def Adu(call round:Ac)(K l:Nat):CF:=
 L9 g2 (put p21 (L9 g3 (put p22 (mv g6 p23 (Ad4 call round g21 (fun tm=>[g22 tm,g23 tm]) (put p24 (Axb g24 (put p25 (Aer g25 ((Bi l false .done (some .ret))) ((Bi l true .ready none)))))))))))
def Ath(call round:Ac)(K l:Nat):CF:=
 mv g20 p6 (Px l (Adu call round K l))
theorem Aw6(call round:Ac)(K l:Nat):Mg TT call round K 149 27 (some l) (fun id=>Bi l false .done (some (.exit id))) (Bi l false .done (some .ret)) (Cs TT 149 0).2.2.1 [] (Px l (Mg TT call round K 149 27 (some l) (fun id=>Bi l false .done (some (.exit id))) (Bi l false .done (some .ret)) (Cs TT 149 0).2.2.2 [] (Bi l true .ready none)))=Ath call round K l:=by kernel_rfl
end
end Go.Ev

namespace Go.Ev
open Go.Proofs
set_option maxRecDepth 100000
noncomputable section
def A2n:List (Nat × FT):=[(49,F49),(64,F64),(149,A0v)]
def Aft:Nat->Option FT:=fun f=>C9 (pathOf f) (Anv A2n)
end
theorem Azh:Az9 TP A2n:=⟨Abg.of Al2 A26,Abg.of Al2 A3b,Abg.of Al2 A1z,trivial⟩
theorem Apl:∀ g F,Aft g=some F->Abg TP g F:=fun g F h=>Ai0 Azh (by rw[<-Ait];exact h)
end Go.Ev

namespace Go.Ev
open Go.Proofs
set_option maxRecDepth 100000
noncomputable section
def Bc:List EV:=[.int .u32 (.ofNat 0),.int .u32 (.ofNat 4067132163),.int .u32 (.ofNat 3778769143),.int .u32 (.ofNat 324072436),.int .u32 (.ofNat 3348797215),.int .u32 (.ofNat 904991772),.int .u32 (.ofNat 648144872),.int .u32 (.ofNat 3570033899),.int .u32 (.ofNat 2329499855),.int .u32 (.ofNat 2024987596),.int .u32 (.ofNat 1809983544),.int .u32 (.ofNat 2575936315),.int .u32 (.ofNat 1296289744),.int .u32 (.ofNat 3207089363),.int .u32 (.ofNat 2893594407),.int .u32 (.ofNat 1578318884),.int .u32 (.ofNat 274646895),.int .u32 (.ofNat 3795141740),.int .u32 (.ofNat 4049975192),.int .u32 (.ofNat 51262619),.int .u32 (.ofNat 3619967088),.int .u32 (.ofNat 632279923),.int .u32 (.ofNat 922689671),.int .u32 (.ofNat 3298075524),.int .u32 (.ofNat 2592579488),.int .u32 (.ofNat 1760304291),.int .u32 (.ofNat 2075979607),.int .u32 (.ofNat 2312596564),.int .u32 (.ofNat 1562183871),.int .u32 (.ofNat 2943781820),.int .u32 (.ofNat 3156637768),.int .u32 (.ofNat 1313733451),.int .u32 (.ofNat 549293790),.int .u32 (.ofNat 3537243613),.int .u32 (.ofNat 3246849577),.int .u32 (.ofNat 871202090),.int .u32 (.ofNat 3878099393),.int .u32 (.ofNat 357341890),.int .u32 (.ofNat 102525238),.int .u32 (.ofNat 4101499445),.int .u32 (.ofNat 2858735121),.int .u32 (.ofNat 1477399826),.int .u32 (.ofNat 1264559846),.int .u32 (.ofNat 3107202533),.int .u32 (.ofNat 1845379342),.int .u32 (.ofNat 2677391885),.int .u32 (.ofNat 2361733625),.int .u32 (.ofNat 2125378298),.int .u32 (.ofNat 820201905),.int .u32 (.ofNat 3263744690),.int .u32 (.ofNat 3520608582),.int .u32 (.ofNat 598981189),.int .u32 (.ofNat 4151959214),.int .u32 (.ofNat 85089709),.int .u32 (.ofNat 373468761),.int .u32 (.ofNat 3827903834),.int .u32 (.ofNat 3124367742),.int .u32 (.ofNat 1213305469),.int .u32 (.ofNat 1526817161),.int .u32 (.ofNat 2842354314),.int .u32 (.ofNat 2107672161),.int .u32 (.ofNat 2412447074),.int .u32 (.ofNat 2627466902),.int .u32 (.ofNat 1861252501),.int .u32 (.ofNat 1098587580),.int .u32 (.ofNat 3004210879),.int .u32 (.ofNat 2688576843),.int .u32 (.ofNat 1378610760),.int .u32 (.ofNat 2262928035),.int .u32 (.ofNat 1955203488),.int .u32 (.ofNat 1742404180),.int .u32 (.ofNat 2511436119),.int .u32 (.ofNat 3416409459),.int .u32 (.ofNat 969524848),.int .u32 (.ofNat 714683780),.int .u32 (.ofNat 3639785095),.int .u32 (.ofNat 205050476),.int .u32 (.ofNat 4266873199),.int .u32 (.ofNat 3976438427),.int .u32 (.ofNat 526918040),.int .u32 (.ofNat 1361435347),.int .u32 (.ofNat 2739821008),.int .u32 (.ofNat 2954799652),.int .u32 (.ofNat 1114974503),.int .u32 (.ofNat 2529119692),.int .u32 (.ofNat 1691668175),.int .u32 (.ofNat 2005155131),.int .u32 (.ofNat 2247081528),.int .u32 (.ofNat 3690758684),.int .u32 (.ofNat 697762079),.int .u32 (.ofNat 986182379),.int .u32 (.ofNat 3366744552),.int .u32 (.ofNat 476452099),.int .u32 (.ofNat 3993867776),.int .u32 (.ofNat 4250756596),.int .u32 (.ofNat 255256311),.int .u32 (.ofNat 1640403810),.int .u32 (.ofNat 2477592673),.int .u32 (.ofNat 2164122517),.int .u32 (.ofNat 1922457750),.int .u32 (.ofNat 2791048317),.int .u32 (.ofNat 1412925310),.int .u32 (.ofNat 1197962378),.int .u32 (.ofNat 3037525897),.int .u32 (.ofNat 3944729517),.int .u32 (.ofNat 427051182),.int .u32 (.ofNat 170179418),.int .u32 (.ofNat 4165941337),.int .u32 (.ofNat 746937522),.int .u32 (.ofNat 3740196785),.int .u32 (.ofNat 3451792453),.int .u32 (.ofNat 1070968646),.int .u32 (.ofNat 1905808397),.int .u32 (.ofNat 2213795598),.int .u32 (.ofNat 2426610938),.int .u32 (.ofNat 1657317369),.int .u32 (.ofNat 3053634322),.int .u32 (.ofNat 1147748369),.int .u32 (.ofNat 1463399397),.int .u32 (.ofNat 2773627110),.int .u32 (.ofNat 4215344322),.int .u32 (.ofNat 153784257),.int .u32 (.ofNat 444234805),.int .u32 (.ofNat 3893493558),.int .u32 (.ofNat 1021025245),.int .u32 (.ofNat 3467647198),.int .u32 (.ofNat 3722505002),.int .u32 (.ofNat 797665321),.int .u32 (.ofNat 2197175160),.int .u32 (.ofNat 1889384571),.int .u32 (.ofNat 1674398607),.int .u32 (.ofNat 2443626636),.int .u32 (.ofNat 1164749927),.int .u32 (.ofNat 3070701412),.int .u32 (.ofNat 2757221520),.int .u32 (.ofNat 1446797203),.int .u32 (.ofNat 137323447),.int .u32 (.ofNat 4198817972),.int .u32 (.ofNat 3910406976),.int .u32 (.ofNat 461344835),.int .u32 (.ofNat 3484808360),.int .u32 (.ofNat 1037989803),.int .u32 (.ofNat 781091935),.int .u32 (.ofNat 3705997148),.int .u32 (.ofNat 2460548119),.int .u32 (.ofNat 1623424788),.int .u32 (.ofNat 1939049696),.int .u32 (.ofNat 2180517859),.int .u32 (.ofNat 1429367560),.int .u32 (.ofNat 2807687179),.int .u32 (.ofNat 3020495871),.int .u32 (.ofNat 1180866812),.int .u32 (.ofNat 410100952),.int .u32 (.ofNat 3927582683),.int .u32 (.ofNat 4182430767),.int .u32 (.ofNat 186734380),.int .u32 (.ofNat 3756733383),.int .u32 (.ofNat 763408580),.int .u32 (.ofNat 1053836080),.int .u32 (.ofNat 3434856499),.int .u32 (.ofNat 2722870694),.int .u32 (.ofNat 1344288421),.int .u32 (.ofNat 1131464017),.int .u32 (.ofNat 2971354706),.int .u32 (.ofNat 1708204729),.int .u32 (.ofNat 2545590714),.int .u32 (.ofNat 2229949006),.int .u32 (.ofNat 1988219213),.int .u32 (.ofNat 680717673),.int .u32 (.ofNat 3673779818),.int .u32 (.ofNat 3383336350),.int .u32 (.ofNat 1002577565),.int .u32 (.ofNat 4010310262),.int .u32 (.ofNat 493091189),.int .u32 (.ofNat 238226049),.int .u32 (.ofNat 4233660802),.int .u32 (.ofNat 2987750089),.int .u32 (.ofNat 1082061258),.int .u32 (.ofNat 1395524158),.int .u32 (.ofNat 2705686845),.int .u32 (.ofNat 1972364758),.int .u32 (.ofNat 2279892693),.int .u32 (.ofNat 2494862625),.int .u32 (.ofNat 1725896226),.int .u32 (.ofNat 952904198),.int .u32 (.ofNat 3399985413),.int .u32 (.ofNat 3656866545),.int .u32 (.ofNat 731699698),.int .u32 (.ofNat 4283874585),.int .u32 (.ofNat 222117402),.int .u32 (.ofNat 510512622),.int .u32 (.ofNat 3959836397),.int .u32 (.ofNat 3280807620),.int .u32 (.ofNat 837199303),.int .u32 (.ofNat 582374963),.int .u32 (.ofNat 3504198960),.int .u32 (.ofNat 68661723),.int .u32 (.ofNat 4135334616),.int .u32 (.ofNat 3844915500),.int .u32 (.ofNat 390545967),.int .u32 (.ofNat 1230274059),.int .u32 (.ofNat 3141532936),.int .u32 (.ofNat 2825850620),.int .u32 (.ofNat 1510247935),.int .u32 (.ofNat 2395924756),.int .u32 (.ofNat 2091215383),.int .u32 (.ofNat 1878366691),.int .u32 (.ofNat 2644384480),.int .u32 (.ofNat 3553878443),.int .u32 (.ofNat 565732008),.int .u32 (.ofNat 854102364),.int .u32 (.ofNat 3229815391),.int .u32 (.ofNat 340358836),.int .u32 (.ofNat 3861050807),.int .u32 (.ofNat 4117890627),.int .u32 (.ofNat 119113024),.int .u32 (.ofNat 1493875044),.int .u32 (.ofNat 2875275879),.int .u32 (.ofNat 3090270611),.int .u32 (.ofNat 1247431312),.int .u32 (.ofNat 2660249211),.int .u32 (.ofNat 1828433272),.int .u32 (.ofNat 2141937292),.int .u32 (.ofNat 2378227087),.int .u32 (.ofNat 3811616794),.int .u32 (.ofNat 291187481),.int .u32 (.ofNat 34330861),.int .u32 (.ofNat 4032846830),.int .u32 (.ofNat 615137029),.int .u32 (.ofNat 3603020806),.int .u32 (.ofNat 3314634738),.int .u32 (.ofNat 939183345),.int .u32 (.ofNat 1776939221),.int .u32 (.ofNat 2609017814),.int .u32 (.ofNat 2295496738),.int .u32 (.ofNat 2058945313),.int .u32 (.ofNat 2926798794),.int .u32 (.ofNat 1545135305),.int .u32 (.ofNat 1330124605),.int .u32 (.ofNat 3173225534),.int .u32 (.ofNat 4084100981),.int .u32 (.ofNat 17165430),.int .u32 (.ofNat 307568514),.int .u32 (.ofNat 3762199681),.int .u32 (.ofNat 888469610),.int .u32 (.ofNat 3332340585),.int .u32 (.ofNat 3587147933),.int .u32 (.ofNat 665062302),.int .u32 (.ofNat 2042050490),.int .u32 (.ofNat 2346497209),.int .u32 (.ofNat 2559330125),.int .u32 (.ofNat 1793573966),.int .u32 (.ofNat 3190661285),.int .u32 (.ofNat 1279665062),.int .u32 (.ofNat 1595330642),.int .u32 (.ofNat 2910671697)]
def Ss:EV:=.agg Bc
def An5:FT:=fun _ _ _ args h=>@List.rec EV (fun _=>R) (some (Ss,h)) (fun _ _ _=>none) args
def At9(_:Nat)(h:Aa):R:=some (Ss,h)
end
structure Ap(disp:Nat->Option FT):Prop where
 plain:∀ g,Ay2 g=true->disp g=Aft g
 crc:disp 26=some An5
theorem Arf {disp:Nat->Option FT}(H:Ap disp){K d:Nat}(hd:1<=d)(h:Aa):Ad TT disp K d false 26 [] h=At9 K h:=by
 obtain⟨d,rfl⟩:∃ e,d=e+1:=⟨d-1,by omega⟩
 rw[Abk H.crc];rfl
noncomputable def A6g(g:Nat):Bool:=An (Ay2 g) (match Aft g with|none=>true|some _=>false) false
theorem Ap.bare {disp:Nat->Option FT}(H:Ap disp){g:Nat}(e:A6g g=true):disp g=none:=by
 obtain⟨h1,h2⟩:=Oh e
 rw[H.plain g h1]
 cases hx:Aft g with
 | none=>rfl
 | some _=>rw[hx]at h2;cases h2
theorem Vl {disp:Nat->Option FT}{g d K:Nat}{args:List EV}{h:Aa}{X:R}{C:Ac}{B:CD}(hn:disp g=none)(hk:A3g TT g (Jz args)=true)(e:Ad TT disp K d false=C)
 (hx:Kw TT C (Ad TT disp K d false) (Ad TT disp K d true) K (nOf TT g) (E1 TT g) .no (Agv TT g) [] (E1 TT g)=B) (hy:B (Aiv args 0 u0) h=X):Ad TT disp K (d+1) false g args h=X:=by
 have e0:Ad TT disp K (d+1) false g args h=Ab5 TT (Ad TT disp K d false) (Ad TT disp K d true) K g args h:=by
  have e:Ad TT disp K (d+1) false g args h = @Option.rec FT (fun _=>FnT) (Ab5 TT (Ad TT disp K d false) (Ad TT disp K d true) K g) (fun F=>F (Ad TT disp K d false) (Ad TT disp K d true) K) (disp g) args h:=rfl
  rw[e,hn]
 rw[e0,Awz hk]
 exact(congrArg (fun C=>Kw TT C (Ad TT disp K d false) (Ad TT disp K d true) K (nOf TT g) (E1 TT g) .no (Agv TT g) [] (E1 TT g) (Aiv args 0 u0) h) e).trans ((congrFun (congrFun hx _) h).trans hy)
theorem Cp {disp:Nat->Option FT}{g m d K:Nat}{args:List EV}{h:Aa}{X:R}{C:Nat->Ac}{B:Nat->Ac->Ac->CD}(hn:disp g=none)(hd:m+1<=d)(hk:A3g TT g (Jz args)=true)
 (e:∀ d,m<=d->Ad TT disp K d false=C d) (hx:∀ d c r,Kw TT (C d) c r K (nOf TT g) (E1 TT g) .no (Agv TT g) [] (E1 TT g)=B d c r) (hy:∀ d c r,B d c r (Aiv args 0 u0) h=X):Ad TT disp K d false g args h=X:=by
 obtain⟨d,rfl⟩:∃ e,d=e+1:=⟨d-1,by omega⟩
 exact Vl hn hk (e d (Nat.le_of_succ_le_succ hd)) (hx _ _ _) (hy _ _ _)
end Go.Ev
