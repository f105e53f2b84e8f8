import Derived.Test.YtpkcfamminlmaaaGreatTab
import Derived.Test.YtpkcfamminlmaaaGreatEvSix
set_option linter.unusedVariables false
set_option linter.unusedSimpArgs false
set_option linter.unusedSectionVars false
namespace Go.Ev
open Go.Proofs
set_option maxRecDepth 100000
noncomputable section
def o0:Ag->Option EV:=Tr.top
def g0:EF:=gO o0
def p0:PF:=Tr.Dy
theorem Bad(tm:Ag):g0 tm=tmp tm 0:=D5 (show o0=Dc (pathOf 0) by kernel_rfl) tm
theorem Bat(v:Option EV)(tm:Ag):p0 v tm=tm.put 0 v:=D4 (show p0=Ix (pathOf 0) by kernel_rfl) v tm
theorem Bae(w:Bool)(tm:Ag):By o0 w tm=Au (tmp tm 0) w:=Bq (show o0=Dc (pathOf 0) by kernel_rfl) w tm
def o1:Ag->Option EV:=Tr.Nj (Tr.top)
def g1:EF:=gO o1
def p1:PF:=Tr.Eo (Tr.Dy)
theorem Ba3(tm:Ag):g1 tm=tmp tm 1:=D5 (show o1=Dc (pathOf 1) by kernel_rfl) tm
theorem Bas(v:Option EV)(tm:Ag):p1 v tm=tm.put 1 v:=D4 (show p1=Ix (pathOf 1) by kernel_rfl) v tm
theorem Bab(w:Bool)(tm:Ag):By o1 w tm=Au (tmp tm 1) w:=Bq (show o1=Dc (pathOf 1) by kernel_rfl) w tm
def o2:Ag->Option EV:=Tr.Rg (Tr.top)
def g2:EF:=gO o2
def p2:PF:=Tr.G1 (Tr.Dy)
theorem Ba7(tm:Ag):g2 tm=tmp tm 2:=D5 (show o2=Dc (pathOf 2) by kernel_rfl) tm
theorem Bap(v:Option EV)(tm:Ag):p2 v tm=tm.put 2 v:=D4 (show p2=Ix (pathOf 2) by kernel_rfl) v tm
theorem Baj(w:Bool)(tm:Ag):By o2 w tm=Au (tmp tm 2) w:=Bq (show o2=Dc (pathOf 2) by kernel_rfl) w tm
def o3:Ag->Option EV:=Tr.Nj (Tr.Nj (Tr.top))
def g3:EF:=gO o3
def p3:PF:=Tr.Eo (Tr.Eo (Tr.Dy))
theorem Bao(tm:Ag):g3 tm=tmp tm 3:=D5 (show o3=Dc (pathOf 3) by kernel_rfl) tm
theorem Bav(v:Option EV)(tm:Ag):p3 v tm=tm.put 3 v:=D4 (show p3=Ix (pathOf 3) by kernel_rfl) v tm
theorem Ban(w:Bool)(tm:Ag):By o3 w tm=Au (tmp tm 3) w:=Bq (show o3=Dc (pathOf 3) by kernel_rfl) w tm
def o4:Ag->Option EV:=Tr.Rg (Tr.Nj (Tr.top))
def g4:EF:=gO o4
def p4:PF:=Tr.G1 (Tr.Eo (Tr.Dy))
theorem Bay(tm:Ag):g4 tm=tmp tm 4:=D5 (show o4=Dc (pathOf 4) by kernel_rfl) tm
theorem Bar(v:Option EV)(tm:Ag):p4 v tm=tm.put 4 v:=D4 (show p4=Ix (pathOf 4) by kernel_rfl) v tm
theorem Bah(w:Bool)(tm:Ag):By o4 w tm=Au (tmp tm 4) w:=Bq (show o4=Dc (pathOf 4) by kernel_rfl) w tm
def o5:Ag->Option EV:=Tr.Nj (Tr.Rg (Tr.top))
def g5:EF:=gO o5
def p5:PF:=Tr.Eo (Tr.G1 (Tr.Dy))
theorem Ba6(tm:Ag):g5 tm=tmp tm 5:=D5 (show o5=Dc (pathOf 5) by kernel_rfl) tm
theorem Bag(v:Option EV)(tm:Ag):p5 v tm=tm.put 5 v:=D4 (show p5=Ix (pathOf 5) by kernel_rfl) v tm
theorem Bam(w:Bool)(tm:Ag):By o5 w tm=Au (tmp tm 5) w:=Bq (show o5=Dc (pathOf 5) by kernel_rfl) w tm
def o6:Ag->Option EV:=Tr.Rg (Tr.Rg (Tr.top))
def g6:EF:=gO o6
def p6:PF:=Tr.G1 (Tr.G1 (Tr.Dy))
theorem Baz(tm:Ag):g6 tm=tmp tm 6:=D5 (show o6=Dc (pathOf 6) by kernel_rfl) tm
theorem Bac(v:Option EV)(tm:Ag):p6 v tm=tm.put 6 v:=D4 (show p6=Ix (pathOf 6) by kernel_rfl) v tm
theorem A94(w:Bool)(tm:Ag):By o6 w tm=Au (tmp tm 6) w:=Bq (show o6=Dc (pathOf 6) by kernel_rfl) w tm
def o7:Ag->Option EV:=Tr.Nj (Tr.Nj (Tr.Nj (Tr.top)))
def g7:EF:=gO o7
def p7:PF:=Tr.Eo (Tr.Eo (Tr.Eo (Tr.Dy)))
theorem A95(tm:Ag):g7 tm=tmp tm 7:=D5 (show o7=Dc (pathOf 7) by kernel_rfl) tm
theorem Ba0(v:Option EV)(tm:Ag):p7 v tm=tm.put 7 v:=D4 (show p7=Ix (pathOf 7) by kernel_rfl) v tm
theorem Bal(w:Bool)(tm:Ag):By o7 w tm=Au (tmp tm 7) w:=Bq (show o7=Dc (pathOf 7) by kernel_rfl) w tm
def o8:Ag->Option EV:=Tr.Rg (Tr.Nj (Tr.Nj (Tr.top)))
def g8:EF:=gO o8
def p8:PF:=Tr.G1 (Tr.Eo (Tr.Eo (Tr.Dy)))
theorem Baa(tm:Ag):g8 tm=tmp tm 8:=D5 (show o8=Dc (pathOf 8) by kernel_rfl) tm
theorem Baw(v:Option EV)(tm:Ag):p8 v tm=tm.put 8 v:=D4 (show p8=Ix (pathOf 8) by kernel_rfl) v tm
theorem A99(w:Bool)(tm:Ag):By o8 w tm=Au (tmp tm 8) w:=Bq (show o8=Dc (pathOf 8) by kernel_rfl) w tm
def o9:Ag->Option EV:=Tr.Nj (Tr.Rg (Tr.Nj (Tr.top)))
def g9:EF:=gO o9
def p9:PF:=Tr.Eo (Tr.G1 (Tr.Eo (Tr.Dy)))
theorem Ba2(tm:Ag):g9 tm=tmp tm 9:=D5 (show o9=Dc (pathOf 9) by kernel_rfl) tm
theorem A97(v:Option EV)(tm:Ag):p9 v tm=tm.put 9 v:=D4 (show p9=Ix (pathOf 9) by kernel_rfl) v tm
theorem Ba1(w:Bool)(tm:Ag):By o9 w tm=Au (tmp tm 9) w:=Bq (show o9=Dc (pathOf 9) by kernel_rfl) w tm
def o10:Ag->Option EV:=Tr.Rg (Tr.Rg (Tr.Nj (Tr.top)))
def g10:EF:=gO o10
def p10:PF:=Tr.G1 (Tr.G1 (Tr.Eo (Tr.Dy)))
theorem A9d(tm:Ag):g10 tm=tmp tm 10:=D5 (show o10=Dc (pathOf 10) by kernel_rfl) tm
theorem A9l(v:Option EV)(tm:Ag):p10 v tm=tm.put 10 v:=D4 (show p10=Ix (pathOf 10) by kernel_rfl) v tm
theorem A76(w:Bool)(tm:Ag):By o10 w tm=Au (tmp tm 10) w:=Bq (show o10=Dc (pathOf 10) by kernel_rfl) w tm
def o11:Ag->Option EV:=Tr.Nj (Tr.Nj (Tr.Rg (Tr.top)))
def g11:EF:=gO o11
def p11:PF:=Tr.Eo (Tr.Eo (Tr.G1 (Tr.Dy)))
theorem A88(tm:Ag):g11 tm=tmp tm 11:=D5 (show o11=Dc (pathOf 11) by kernel_rfl) tm
theorem A86(v:Option EV)(tm:Ag):p11 v tm=tm.put 11 v:=D4 (show p11=Ix (pathOf 11) by kernel_rfl) v tm
theorem A77(w:Bool)(tm:Ag):By o11 w tm=Au (tmp tm 11) w:=Bq (show o11=Dc (pathOf 11) by kernel_rfl) w tm
def o12:Ag->Option EV:=Tr.Rg (Tr.Nj (Tr.Rg (Tr.top)))
def g12:EF:=gO o12
def p12:PF:=Tr.G1 (Tr.Eo (Tr.G1 (Tr.Dy)))
theorem A7a(tm:Ag):g12 tm=tmp tm 12:=D5 (show o12=Dc (pathOf 12) by kernel_rfl) tm
theorem A9c(v:Option EV)(tm:Ag):p12 v tm=tm.put 12 v:=D4 (show p12=Ix (pathOf 12) by kernel_rfl) v tm
theorem A85(w:Bool)(tm:Ag):By o12 w tm=Au (tmp tm 12) w:=Bq (show o12=Dc (pathOf 12) by kernel_rfl) w tm
def o13:Ag->Option EV:=Tr.Nj (Tr.Rg (Tr.Rg (Tr.top)))
def g13:EF:=gO o13
def p13:PF:=Tr.Eo (Tr.G1 (Tr.G1 (Tr.Dy)))
theorem A7r(tm:Ag):g13 tm=tmp tm 13:=D5 (show o13=Dc (pathOf 13) by kernel_rfl) tm
theorem A7s(v:Option EV)(tm:Ag):p13 v tm=tm.put 13 v:=D4 (show p13=Ix (pathOf 13) by kernel_rfl) v tm
theorem A9b(w:Bool)(tm:Ag):By o13 w tm=Au (tmp tm 13) w:=Bq (show o13=Dc (pathOf 13) by kernel_rfl) w tm
def o14:Ag->Option EV:=Tr.Rg (Tr.Rg (Tr.Rg (Tr.top)))
def g14:EF:=gO o14
def p14:PF:=Tr.G1 (Tr.G1 (Tr.G1 (Tr.Dy)))
theorem A8x(tm:Ag):g14 tm=tmp tm 14:=D5 (show o14=Dc (pathOf 14) by kernel_rfl) tm
theorem A92(v:Option EV)(tm:Ag):p14 v tm=tm.put 14 v:=D4 (show p14=Ix (pathOf 14) by kernel_rfl) v tm
theorem A9t(w:Bool)(tm:Ag):By o14 w tm=Au (tmp tm 14) w:=Bq (show o14=Dc (pathOf 14) by kernel_rfl) w tm
def o15:Ag->Option EV:=Tr.Nj (Tr.Nj (Tr.Nj (Tr.Nj (Tr.top))))
def g15:EF:=gO o15
def p15:PF:=Tr.Eo (Tr.Eo (Tr.Eo (Tr.Eo (Tr.Dy))))
theorem A73(tm:Ag):g15 tm=tmp tm 15:=D5 (show o15=Dc (pathOf 15) by kernel_rfl) tm
theorem A8o(v:Option EV)(tm:Ag):p15 v tm=tm.put 15 v:=D4 (show p15=Ix (pathOf 15) by kernel_rfl) v tm
theorem A8b(w:Bool)(tm:Ag):By o15 w tm=Au (tmp tm 15) w:=Bq (show o15=Dc (pathOf 15) by kernel_rfl) w tm
def o16:Ag->Option EV:=Tr.Rg (Tr.Nj (Tr.Nj (Tr.Nj (Tr.top))))
def g16:EF:=gO o16
def p16:PF:=Tr.G1 (Tr.Eo (Tr.Eo (Tr.Eo (Tr.Dy))))
theorem A7v(tm:Ag):g16 tm=tmp tm 16:=D5 (show o16=Dc (pathOf 16) by kernel_rfl) tm
theorem A7i(v:Option EV)(tm:Ag):p16 v tm=tm.put 16 v:=D4 (show p16=Ix (pathOf 16) by kernel_rfl) v tm
theorem A8k(w:Bool)(tm:Ag):By o16 w tm=Au (tmp tm 16) w:=Bq (show o16=Dc (pathOf 16) by kernel_rfl) w tm
def o17:Ag->Option EV:=Tr.Nj (Tr.Rg (Tr.Nj (Tr.Nj (Tr.top))))
def g17:EF:=gO o17
def p17:PF:=Tr.Eo (Tr.G1 (Tr.Eo (Tr.Eo (Tr.Dy))))
theorem A8m(tm:Ag):g17 tm=tmp tm 17:=D5 (show o17=Dc (pathOf 17) by kernel_rfl) tm
theorem A9i(v:Option EV)(tm:Ag):p17 v tm=tm.put 17 v:=D4 (show p17=Ix (pathOf 17) by kernel_rfl) v tm
theorem A9k(w:Bool)(tm:Ag):By o17 w tm=Au (tmp tm 17) w:=Bq (show o17=Dc (pathOf 17) by kernel_rfl) w tm
def o18:Ag->Option EV:=Tr.Rg (Tr.Rg (Tr.Nj (Tr.Nj (Tr.top))))
def g18:EF:=gO o18
def p18:PF:=Tr.G1 (Tr.G1 (Tr.Eo (Tr.Eo (Tr.Dy))))
theorem A8c(tm:Ag):g18 tm=tmp tm 18:=D5 (show o18=Dc (pathOf 18) by kernel_rfl) tm
theorem A9p(v:Option EV)(tm:Ag):p18 v tm=tm.put 18 v:=D4 (show p18=Ix (pathOf 18) by kernel_rfl) v tm
theorem A9x(w:Bool)(tm:Ag):By o18 w tm=Au (tmp tm 18) w:=Bq (show o18=Dc (pathOf 18) by kernel_rfl) w tm
def o19:Ag->Option EV:=Tr.Nj (Tr.Nj (Tr.Rg (Tr.Nj (Tr.top))))
def g19:EF:=gO o19
def p19:PF:=Tr.Eo (Tr.Eo (Tr.G1 (Tr.Eo (Tr.Dy))))
theorem A9v(tm:Ag):g19 tm=tmp tm 19:=D5 (show o19=Dc (pathOf 19) by kernel_rfl) tm
theorem A7o(v:Option EV)(tm:Ag):p19 v tm=tm.put 19 v:=D4 (show p19=Ix (pathOf 19) by kernel_rfl) v tm
theorem A8f(w:Bool)(tm:Ag):By o19 w tm=Au (tmp tm 19) w:=Bq (show o19=Dc (pathOf 19) by kernel_rfl) w tm
def o20:Ag->Option EV:=Tr.Rg (Tr.Nj (Tr.Rg (Tr.Nj (Tr.top))))
def g20:EF:=gO o20
def p20:PF:=Tr.G1 (Tr.Eo (Tr.G1 (Tr.Eo (Tr.Dy))))
theorem A9u(tm:Ag):g20 tm=tmp tm 20:=D5 (show o20=Dc (pathOf 20) by kernel_rfl) tm
theorem A74(v:Option EV)(tm:Ag):p20 v tm=tm.put 20 v:=D4 (show p20=Ix (pathOf 20) by kernel_rfl) v tm
theorem A8i(w:Bool)(tm:Ag):By o20 w tm=Au (tmp tm 20) w:=Bq (show o20=Dc (pathOf 20) by kernel_rfl) w tm
def o21:Ag->Option EV:=Tr.Nj (Tr.Rg (Tr.Rg (Tr.Nj (Tr.top))))
def g21:EF:=gO o21
def p21:PF:=Tr.Eo (Tr.G1 (Tr.G1 (Tr.Eo (Tr.Dy))))
theorem A82(tm:Ag):g21 tm=tmp tm 21:=D5 (show o21=Dc (pathOf 21) by kernel_rfl) tm
theorem A9f(v:Option EV)(tm:Ag):p21 v tm=tm.put 21 v:=D4 (show p21=Ix (pathOf 21) by kernel_rfl) v tm
theorem A8q(w:Bool)(tm:Ag):By o21 w tm=Au (tmp tm 21) w:=Bq (show o21=Dc (pathOf 21) by kernel_rfl) w tm
def o22:Ag->Option EV:=Tr.Rg (Tr.Rg (Tr.Rg (Tr.Nj (Tr.top))))
def g22:EF:=gO o22
def p22:PF:=Tr.G1 (Tr.G1 (Tr.G1 (Tr.Eo (Tr.Dy))))
theorem A8j(tm:Ag):g22 tm=tmp tm 22:=D5 (show o22=Dc (pathOf 22) by kernel_rfl) tm
theorem A9z(v:Option EV)(tm:Ag):p22 v tm=tm.put 22 v:=D4 (show p22=Ix (pathOf 22) by kernel_rfl) v tm
theorem A70(w:Bool)(tm:Ag):By o22 w tm=Au (tmp tm 22) w:=Bq (show o22=Dc (pathOf 22) by kernel_rfl) w tm
def o23:Ag->Option EV:=Tr.Nj (Tr.Nj (Tr.Nj (Tr.Rg (Tr.top))))
def g23:EF:=gO o23
def p23:PF:=Tr.Eo (Tr.Eo (Tr.Eo (Tr.G1 (Tr.Dy))))
theorem A8t(tm:Ag):g23 tm=tmp tm 23:=D5 (show o23=Dc (pathOf 23) by kernel_rfl) tm
theorem A9a(v:Option EV)(tm:Ag):p23 v tm=tm.put 23 v:=D4 (show p23=Ix (pathOf 23) by kernel_rfl) v tm
theorem A8v(w:Bool)(tm:Ag):By o23 w tm=Au (tmp tm 23) w:=Bq (show o23=Dc (pathOf 23) by kernel_rfl) w tm
def o24:Ag->Option EV:=Tr.Rg (Tr.Nj (Tr.Nj (Tr.Rg (Tr.top))))
def g24:EF:=gO o24
def p24:PF:=Tr.G1 (Tr.Eo (Tr.Eo (Tr.G1 (Tr.Dy))))
theorem A9s(tm:Ag):g24 tm=tmp tm 24:=D5 (show o24=Dc (pathOf 24) by kernel_rfl) tm
theorem A8d(v:Option EV)(tm:Ag):p24 v tm=tm.put 24 v:=D4 (show p24=Ix (pathOf 24) by kernel_rfl) v tm
theorem A7p(w:Bool)(tm:Ag):By o24 w tm=Au (tmp tm 24) w:=Bq (show o24=Dc (pathOf 24) by kernel_rfl) w tm
def o25:Ag->Option EV:=Tr.Nj (Tr.Rg (Tr.Nj (Tr.Rg (Tr.top))))
def g25:EF:=gO o25
def p25:PF:=Tr.Eo (Tr.G1 (Tr.Eo (Tr.G1 (Tr.Dy))))
theorem A7z(tm:Ag):g25 tm=tmp tm 25:=D5 (show o25=Dc (pathOf 25) by kernel_rfl) tm
theorem A87(v:Option EV)(tm:Ag):p25 v tm=tm.put 25 v:=D4 (show p25=Ix (pathOf 25) by kernel_rfl) v tm
theorem A7j(w:Bool)(tm:Ag):By o25 w tm=Au (tmp tm 25) w:=Bq (show o25=Dc (pathOf 25) by kernel_rfl) w tm
def o26:Ag->Option EV:=Tr.Rg (Tr.Rg (Tr.Nj (Tr.Rg (Tr.top))))
def g26:EF:=gO o26
def p26:PF:=Tr.G1 (Tr.G1 (Tr.Eo (Tr.G1 (Tr.Dy))))
theorem A8l(tm:Ag):g26 tm=tmp tm 26:=D5 (show o26=Dc (pathOf 26) by kernel_rfl) tm
theorem A7n(v:Option EV)(tm:Ag):p26 v tm=tm.put 26 v:=D4 (show p26=Ix (pathOf 26) by kernel_rfl) v tm
theorem A8z(w:Bool)(tm:Ag):By o26 w tm=Au (tmp tm 26) w:=Bq (show o26=Dc (pathOf 26) by kernel_rfl) w tm
def o27:Ag->Option EV:=Tr.Nj (Tr.Nj (Tr.Rg (Tr.Rg (Tr.top))))
def g27:EF:=gO o27
def p27:PF:=Tr.Eo (Tr.Eo (Tr.G1 (Tr.G1 (Tr.Dy))))
theorem A9y(tm:Ag):g27 tm=tmp tm 27:=D5 (show o27=Dc (pathOf 27) by kernel_rfl) tm
theorem A71(v:Option EV)(tm:Ag):p27 v tm=tm.put 27 v:=D4 (show p27=Ix (pathOf 27) by kernel_rfl) v tm
theorem A8n(w:Bool)(tm:Ag):By o27 w tm=Au (tmp tm 27) w:=Bq (show o27=Dc (pathOf 27) by kernel_rfl) w tm
def o28:Ag->Option EV:=Tr.Rg (Tr.Nj (Tr.Rg (Tr.Rg (Tr.top))))
def g28:EF:=gO o28
def p28:PF:=Tr.G1 (Tr.Eo (Tr.G1 (Tr.G1 (Tr.Dy))))
theorem A8s(tm:Ag):g28 tm=tmp tm 28:=D5 (show o28=Dc (pathOf 28) by kernel_rfl) tm
theorem A79(v:Option EV)(tm:Ag):p28 v tm=tm.put 28 v:=D4 (show p28=Ix (pathOf 28) by kernel_rfl) v tm
theorem A91(w:Bool)(tm:Ag):By o28 w tm=Au (tmp tm 28) w:=Bq (show o28=Dc (pathOf 28) by kernel_rfl) w tm
def o29:Ag->Option EV:=Tr.Nj (Tr.Rg (Tr.Rg (Tr.Rg (Tr.top))))
def g29:EF:=gO o29
def p29:PF:=Tr.Eo (Tr.G1 (Tr.G1 (Tr.G1 (Tr.Dy))))
theorem A7u(tm:Ag):g29 tm=tmp tm 29:=D5 (show o29=Dc (pathOf 29) by kernel_rfl) tm
theorem A8e(v:Option EV)(tm:Ag):p29 v tm=tm.put 29 v:=D4 (show p29=Ix (pathOf 29) by kernel_rfl) v tm
theorem A7b(w:Bool)(tm:Ag):By o29 w tm=Au (tmp tm 29) w:=Bq (show o29=Dc (pathOf 29) by kernel_rfl) w tm
def o30:Ag->Option EV:=Tr.Rg (Tr.Rg (Tr.Rg (Tr.Rg (Tr.top))))
def g30:EF:=gO o30
def p30:PF:=Tr.G1 (Tr.G1 (Tr.G1 (Tr.G1 (Tr.Dy))))
theorem A7e(tm:Ag):g30 tm=tmp tm 30:=D5 (show o30=Dc (pathOf 30) by kernel_rfl) tm
theorem A7m(v:Option EV)(tm:Ag):p30 v tm=tm.put 30 v:=D4 (show p30=Ix (pathOf 30) by kernel_rfl) v tm
theorem A9j(w:Bool)(tm:Ag):By o30 w tm=Au (tmp tm 30) w:=Bq (show o30=Dc (pathOf 30) by kernel_rfl) w tm
def o31:Ag->Option EV:=Tr.Nj (Tr.Nj (Tr.Nj (Tr.Nj (Tr.Nj (Tr.top)))))
def g31:EF:=gO o31
def p31:PF:=Tr.Eo (Tr.Eo (Tr.Eo (Tr.Eo (Tr.Eo (Tr.Dy)))))
theorem A7d(tm:Ag):g31 tm=tmp tm 31:=D5 (show o31=Dc (pathOf 31) by kernel_rfl) tm
theorem A72(v:Option EV)(tm:Ag):p31 v tm=tm.put 31 v:=D4 (show p31=Ix (pathOf 31) by kernel_rfl) v tm
theorem A8h(w:Bool)(tm:Ag):By o31 w tm=Au (tmp tm 31) w:=Bq (show o31=Dc (pathOf 31) by kernel_rfl) w tm
def o32:Ag->Option EV:=Tr.Rg (Tr.Nj (Tr.Nj (Tr.Nj (Tr.Nj (Tr.top)))))
def g32:EF:=gO o32
def p32:PF:=Tr.G1 (Tr.Eo (Tr.Eo (Tr.Eo (Tr.Eo (Tr.Dy)))))
theorem A7t(tm:Ag):g32 tm=tmp tm 32:=D5 (show o32=Dc (pathOf 32) by kernel_rfl) tm
theorem A67(v:Option EV)(tm:Ag):p32 v tm=tm.put 32 v:=D4 (show p32=Ix (pathOf 32) by kernel_rfl) v tm
theorem A75(w:Bool)(tm:Ag):By o32 w tm=Au (tmp tm 32) w:=Bq (show o32=Dc (pathOf 32) by kernel_rfl) w tm
def o33:Ag->Option EV:=Tr.Nj (Tr.Rg (Tr.Nj (Tr.Nj (Tr.Nj (Tr.top)))))
def g33:EF:=gO o33
def p33:PF:=Tr.Eo (Tr.G1 (Tr.Eo (Tr.Eo (Tr.Eo (Tr.Dy)))))
theorem A7c(tm:Ag):g33 tm=tmp tm 33:=D5 (show o33=Dc (pathOf 33) by kernel_rfl) tm
theorem A80(v:Option EV)(tm:Ag):p33 v tm=tm.put 33 v:=D4 (show p33=Ix (pathOf 33) by kernel_rfl) v tm
theorem A69(w:Bool)(tm:Ag):By o33 w tm=Au (tmp tm 33) w:=Bq (show o33=Dc (pathOf 33) by kernel_rfl) w tm
def o34:Ag->Option EV:=Tr.Rg (Tr.Rg (Tr.Nj (Tr.Nj (Tr.Nj (Tr.top)))))
def g34:EF:=gO o34
def p34:PF:=Tr.G1 (Tr.G1 (Tr.Eo (Tr.Eo (Tr.Eo (Tr.Dy)))))
theorem A9m(tm:Ag):g34 tm=tmp tm 34:=D5 (show o34=Dc (pathOf 34) by kernel_rfl) tm
theorem A90(v:Option EV)(tm:Ag):p34 v tm=tm.put 34 v:=D4 (show p34=Ix (pathOf 34) by kernel_rfl) v tm
theorem A8a(w:Bool)(tm:Ag):By o34 w tm=Au (tmp tm 34) w:=Bq (show o34=Dc (pathOf 34) by kernel_rfl) w tm
def o35:Ag->Option EV:=Tr.Nj (Tr.Nj (Tr.Rg (Tr.Nj (Tr.Nj (Tr.top)))))
def g35:EF:=gO o35
def p35:PF:=Tr.Eo (Tr.Eo (Tr.G1 (Tr.Eo (Tr.Eo (Tr.Dy)))))
theorem A8w(tm:Ag):g35 tm=tmp tm 35:=D5 (show o35=Dc (pathOf 35) by kernel_rfl) tm
theorem A93(v:Option EV)(tm:Ag):p35 v tm=tm.put 35 v:=D4 (show p35=Ix (pathOf 35) by kernel_rfl) v tm
theorem A7h(w:Bool)(tm:Ag):By o35 w tm=Au (tmp tm 35) w:=Bq (show o35=Dc (pathOf 35) by kernel_rfl) w tm
theorem tt0:(∀ tm,g0 tm=tmp tm 0)/\(∀ v tm,p0 v tm=tm.put 0 v)/\(∀ w tm,By o0 w tm=Au (tmp tm 0) w)/\(∀ tm,g1 tm=tmp tm 1)/\(∀ v tm,p1 v tm=tm.put 1 v)/\(∀ w tm,By o1 w tm=Au (tmp tm 1) w)/\(∀ tm,g2 tm=tmp tm 2)/\(∀ v tm,p2 v tm=tm.put 2 v)/\(∀ w tm,By o2 w tm=Au (tmp tm 2) w)/\(∀ tm,g3 tm=tmp tm 3)/\(∀ v tm,p3 v tm=tm.put 3 v)/\(∀ w tm,By o3 w tm=Au (tmp tm 3) w)/\(∀ tm,g4 tm=tmp tm 4)/\(∀ v tm,p4 v tm=tm.put 4 v)/\(∀ w tm,By o4 w tm=Au (tmp tm 4) w)/\(∀ tm,g5 tm=tmp tm 5)/\(∀ v tm,p5 v tm=tm.put 5 v)/\(∀ w tm,By o5 w tm=Au (tmp tm 5) w)/\(∀ tm,g6 tm=tmp tm 6)/\(∀ v tm,p6 v tm=tm.put 6 v)/\(∀ w tm,By o6 w tm=Au (tmp tm 6) w)/\(∀ tm,g7 tm=tmp tm 7)/\(∀ v tm,p7 v tm=tm.put 7 v)/\(∀ w tm,By o7 w tm=Au (tmp tm 7) w)/\(∀ tm,g8 tm=tmp tm 8)/\(∀ v tm,p8 v tm=tm.put 8 v)/\(∀ w tm,By o8 w tm=Au (tmp tm 8) w)/\(∀ tm,g9 tm=tmp tm 9)/\(∀ v tm,p9 v tm=tm.put 9 v)/\(∀ w tm,By o9 w tm=Au (tmp tm 9) w)/\(∀ tm,g10 tm=tmp tm 10)/\(∀ v tm,p10 v tm=tm.put 10 v)/\(∀ w tm,By o10 w tm=Au (tmp tm 10) w)/\(∀ tm,g11 tm=tmp tm 11)/\(∀ v tm,p11 v tm=tm.put 11 v)/\(∀ w tm,By o11 w tm=Au (tmp tm 11) w)/\(∀ tm,g12 tm=tmp tm 12)/\(∀ v tm,p12 v tm=tm.put 12 v)/\(∀ w tm,By o12 w tm=Au (tmp tm 12) w)/\(∀ tm,g13 tm=tmp tm 13)/\(∀ v tm,p13 v tm=tm.put 13 v)/\(∀ w tm,By o13 w tm=Au (tmp tm 13) w)/\(∀ tm,g14 tm=tmp tm 14)/\(∀ v tm,p14 v tm=tm.put 14 v)/\(∀ w tm,By o14 w tm=Au (tmp tm 14) w)/\(∀ tm,g15 tm=tmp tm 15)/\(∀ v tm,p15 v tm=tm.put 15 v)/\(∀ w tm,By o15 w tm=Au (tmp tm 15) w)/\(∀ tm,g16 tm=tmp tm 16)/\(∀ v tm,p16 v tm=tm.put 16 v)/\(∀ w tm,By o16 w tm=Au (tmp tm 16) w)/\(∀ tm,g17 tm=tmp tm 17)/\(∀ v tm,p17 v tm=tm.put 17 v)/\(∀ w tm,By o17 w tm=Au (tmp tm 17) w)/\(∀ tm,g18 tm=tmp tm 18)/\(∀ v tm,p18 v tm=tm.put 18 v)/\(∀ w tm,By o18 w tm=Au (tmp tm 18) w)/\(∀ tm,g19 tm=tmp tm 19)/\(∀ v tm,p19 v tm=tm.put 19 v)/\(∀ w tm,By o19 w tm=Au (tmp tm 19) w)/\(∀ tm,g20 tm=tmp tm 20)/\(∀ v tm,p20 v tm=tm.put 20 v)/\(∀ w tm,By o20 w tm=Au (tmp tm 20) w)/\(∀ tm,g21 tm=tmp tm 21)/\(∀ v tm,p21 v tm=tm.put 21 v)/\(∀ w tm,By o21 w tm=Au (tmp tm 21) w)/\(∀ tm,g22 tm=tmp tm 22)/\(∀ v tm,p22 v tm=tm.put 22 v)/\(∀ w tm,By o22 w tm=Au (tmp tm 22) w)/\(∀ tm,g23 tm=tmp tm 23)/\(∀ v tm,p23 v tm=tm.put 23 v)/\(∀ w tm,By o23 w tm=Au (tmp tm 23) w)/\(∀ tm,g24 tm=tmp tm 24)/\(∀ v tm,p24 v tm=tm.put 24 v)/\(∀ w tm,By o24 w tm=Au (tmp tm 24) w)/\(∀ tm,g25 tm=tmp tm 25)/\(∀ v tm,p25 v tm=tm.put 25 v)/\(∀ w tm,By o25 w tm=Au (tmp tm 25) w)/\(∀ tm,g26 tm=tmp tm 26)/\(∀ v tm,p26 v tm=tm.put 26 v)/\(∀ w tm,By o26 w tm=Au (tmp tm 26) w)/\(∀ tm,g27 tm=tmp tm 27)/\(∀ v tm,p27 v tm=tm.put 27 v)/\(∀ w tm,By o27 w tm=Au (tmp tm 27) w)/\(∀ tm,g28 tm=tmp tm 28)/\(∀ v tm,p28 v tm=tm.put 28 v)/\(∀ w tm,By o28 w tm=Au (tmp tm 28) w)/\(∀ tm,g29 tm=tmp tm 29)/\(∀ v tm,p29 v tm=tm.put 29 v)/\(∀ w tm,By o29 w tm=Au (tmp tm 29) w)/\(∀ tm,g30 tm=tmp tm 30)/\(∀ v tm,p30 v tm=tm.put 30 v)/\(∀ w tm,By o30 w tm=Au (tmp tm 30) w)/\(∀ tm,g31 tm=tmp tm 31)/\(∀ v tm,p31 v tm=tm.put 31 v)/\(∀ w tm,By o31 w tm=Au (tmp tm 31) w):=⟨Bad,Bat,Bae,Ba3,Bas,Bab,Ba7,Bap,Baj,Bao,Bav,Ban,Bay,Bar,Bah,Ba6,Bag,Bam,Baz,Bac,A94,A95,Ba0,Bal,Baa,Baw,A99,Ba2,A97,Ba1,A9d,A9l,A76,A88,A86,A77,A7a,A9c,A85,A7r,A7s,A9b,A8x,A92,A9t,A73,A8o,A8b,A7v,A7i,A8k,A8m,A9i,A9k,A8c,A9p,A9x,A9v,A7o,A8f,A9u,A74,A8i,A82,A9f,A8q,A8j,A9z,A70,A8t,A9a,A8v,A9s,A8d,A7p,A7z,A87,A7j,A8l,A7n,A8z,A9y,A71,A8n,A8s,A79,A91,A7u,A8e,A7b,A7e,A7m,A9j,A7d,A72,A8h⟩
theorem tt1:(∀ tm,g32 tm=tmp tm 32)/\(∀ v tm,p32 v tm=tm.put 32 v)/\(∀ w tm,By o32 w tm=Au (tmp tm 32) w)/\(∀ tm,g33 tm=tmp tm 33)/\(∀ v tm,p33 v tm=tm.put 33 v)/\(∀ w tm,By o33 w tm=Au (tmp tm 33) w)/\(∀ tm,g34 tm=tmp tm 34)/\(∀ v tm,p34 v tm=tm.put 34 v)/\(∀ w tm,By o34 w tm=Au (tmp tm 34) w)/\(∀ tm,g35 tm=tmp tm 35)/\(∀ v tm,p35 v tm=tm.put 35 v)/\(∀ w tm,By o35 w tm=Au (tmp tm 35) w):=⟨A7t,A67,A75,A7c,A80,A69,A9m,A90,A8a,A8w,A93,A7h⟩
end
end Go.Ev

namespace Go.Ev
open Go.Proofs
set_option maxRecDepth 100000
noncomputable section
def Aq4:CF:=(Aha TT [.cell 4 4])
def Aw6(call round:Ac)(K:Nat):CF:=
 Ve 1 g4 (Kb (.bool false)) (Ae4 (Aq4))
def F19(call round:Ac)(K:Nat):FnT:=Atp 12 (Azx 3 g1 (put p3 (Afc [(.bool false)] 4 (put p4 (mv g0 p6 (Ah5 call 68 (fun tm=>[g6 tm]) (put p7 (Abw TT call 19 12 none 0 (fun _=>C0) [(0,(Aw6 call round K))] Aq4 ((Aw6 call round K))))))))))
theorem A6j(call round:Ac)(K:Nat):Adq TT call round K 19=F19 call round K:=by kernel_rfl
def Ai0(call round:Ac)(K l:Nat):CF:=
 mv g5 p9 (Lw g3 (put p10 (Aro G7 (bin TT .eql 3) g9 g10 (put p11 (Ae9 g11 (Ve 1 g4 (Kb (.bool true)) (Ae4 ((A9 l false .done (some .ret))))) ((A9 l true .ready none)))))))
def A2p(call round:Ac)(K l:Nat):CF:=
 mv g8 p5 (O3 l (Ai0 call round K l))
theorem A0t(call round:Ac)(K l:Nat):Lj TT call round K 19 12 (some l) (fun id=>A9 l false .done (some (.exit id))) (A9 l false .done (some .ret)) (B8 TT 19 0).2.2.1 [] (O3 l (Lj TT call round K 19 12 (some l) (fun id=>A9 l false .done (some (.exit id))) (A9 l false .done (some .ret)) (B8 TT 19 0).2.2.2 [] (A9 l true .ready none)))=A2p call round K l:=by kernel_rfl
def Arn:CF:=(Aha TT [.cell 4 4])
def Awc(call round:Ac)(K:Nat):CF:=
 Ve 1 g4 (Kb (.bool false)) (Ae4 (Arn))
def F49(call round:Ac)(K:Nat):FnT:=Atp 14 (Azx 3 g1 (put p3 (Afc [(.bool false)] 4 (put p4 (mv g0 p7 (Ah5 call 105 (fun tm=>[g7 tm]) (put p8 (Abw TT call 49 14 none 0 (fun _=>C0) [(0,(Awc call round K))] Arn ((Awc call round K))))))))))
theorem A5z(call round:Ac)(K:Nat):Adq TT call round K 49=F49 call round K:=by kernel_rfl
def Aja(call round:Ac)(K l:Nat):CF:=
 mv g6 p11 (Lw g3 (put p12 (Aro G7 (bin TT .eql 3) g11 g12 (put p13 (Ae9 g13 (Ve 1 g4 (Kb (.bool true)) (Ae4 ((A9 l false .done (some .ret))))) ((A9 l true .ready none)))))))
def A17(call round:Ac)(K l:Nat):CF:=
 mv g10 p6 (O3 l (Aja call round K l))
theorem A3j(call round:Ac)(K l:Nat):Lj TT call round K 49 14 (some l) (fun id=>A9 l false .done (some (.exit id))) (A9 l false .done (some .ret)) (B8 TT 49 0).2.2.1 [] (O3 l (Lj TT call round K 49 14 (some l) (fun id=>A9 l false .done (some (.exit id))) (A9 l false .done (some .ret)) (B8 TT 49 0).2.2.2 [] (A9 l true .ready none)))=A17 call round K l:=by kernel_rfl
def Y4:CF:=(Aha TT [.cell 2 4])
def Awj(call round:Ac)(K:Nat):CF:=
 Ve 1 g2 (Kb (.bool true)) (Ae4 (Y4))
def A18(call round:Ac)(K:Nat):CF:=
 Anx 3 g1 (put p26 (Lw g26 (put p27 (Ah5 call 115 (fun tm=>[g27 tm]) (put p28 (Abw TT call 64 36 none 0 (fun _=>C0) [(0,(Awj call round K))] Y4 ((Awj call round K))))))))
def Awa(call round:Ac)(K:Nat):CF:=
 Ati g20 (Kb (.bool true)) g24 (put p25 (Ae9 g25 (Ve 1 g2 (Kb (.bool false)) (Ae4 (Y4))) ((A18 call round K))))
def Axe(call round:Ac)(K:Nat):CF:=
 Ati g14 (Kb (.bool true)) g18 (put p19 (mv g19 p20 (Ap5 (By o20 false) (Anx 2 g1 (put p21 (Lw g21 (put p22 (Ah5 call 114 (fun tm=>[g22 tm,(Kb (.int .i64 (.ofNat 281474976710655))) tm]) (put p23 (Ayp g23 (put p24 ((Awa call round K)))))))))) (put p21 (put p22 (put p23 (put p24 ((Awa call round K)) (.tuple [])) (.tuple [])) (.tuple [])) (.tuple [])))))
def Aw3(call round:Ac)(K:Nat):CF:=
 Ati g8 (Kb (.bool true)) g12 (put p13 (mv g13 p14 (Ap5 (By o14 false) (Anx 1 g1 (put p15 (Lw g15 (put p16 (Ah5 call 114 (fun tm=>[g16 tm,(Kb (.int .i64 (.ofNat 4294967295))) tm]) (put p17 (Ayp g17 (put p18 ((Axe call round K)))))))))) (put p15 (put p16 (put p17 (put p18 ((Axe call round K)) (.tuple [])) (.tuple [])) (.tuple [])) (.tuple [])))))
def F64(call round:Ac)(K:Nat):FnT:=Atp 36 (Azx 60 g0 (put p1 (Afc [(.bool false)] 4 (put p2 (Anx 3 g1 (put p5 (Lw g5 (put p6 (Aro G7 (bin TT .eql 52) g6 (Kb .Db) (put p7 (mv g7 p8 (Ap5 (By o8 false) (Anx 0 g1 (put p9 (Lw g9 (put p10 (Ah5 call 114 (fun tm=>[g10 tm,(Kb (.int .i64 (.ofNat 281474976710655))) tm]) (put p11 (Ayp g11 (put p12 ((Aw3 call round K)))))))))) (put p9 (put p10 (put p11 (put p12 ((Aw3 call round K)) (.tuple [])) (.tuple [])) (.tuple [])) (.tuple []))))))))))))))
theorem A6k(call round:Ac)(K:Nat):Adq TT call round K 64=F64 call round K:=by kernel_rfl
def Ai9(call round:Ac)(K l:Nat):CF:=
 Anx 4 g4 (put p31 (Lw g31 (put p32 (Anx 2 g1 (put p33 (Lw g33 (put p34 (Aro V5 (bin TT .geq 3) g32 g34 (put p35 (Ae9 g35 (Ve 1 g2 (Kb (.bool false)) (Ae4 ((A9 l false .done (some .ret))))) ((A9 l true .ready none))))))))))))
def A1c(call round:Ac)(K l:Nat):CF:=
 Afc [(.int .i64 (.ofNat 0)),(.int .i64 (.ofNat 0)),(.int .i64 (.ofNat 0)),(.int .i64 (.ofNat 0)),(.int .i64 (.ofNat 0)),(.int .i64 (.ofNat 0))] 83 (put p4 (Ve 6 g4 g30 (Ae4 (O3 l (Ai9 call round K l)))))
theorem A2d(call round:Ac)(K l:Nat):Lj TT call round K 64 36 (some l) (fun id=>A9 l false .done (some (.exit id))) (A9 l false .done (some .ret)) (B8 TT 64 0).2.2.1 [] (O3 l (Lj TT call round K 64 36 (some l) (fun id=>A9 l false .done (some (.exit id))) (A9 l false .done (some .ret)) (B8 TT 64 0).2.2.2 [] (A9 l true .ready none)))=A1c call round K l:=by kernel_rfl
def Zv:CF:=A7x
def Amx(call round:Ac)(K:Nat)(ih0_:CF):CF:=
 Aro Hj (bin TT .add 3) g12 (Kb (.int .i64 (.ofNat 1))) (put p26 (mv g26 p12 (ih0_)))
def Auz(call round:Ac)(K:Nat)(ih0_:CF):CF:=
 mv g12 p14 (Aln 1 g10 g12 (put p15 (Lw g15 (put p16 (Afc [(.int .i64 (.ofNat 0))] 3 (put p3 (Ve 1 g3 g14 (Ae4 (mv g16 p4 (mv g4 p17 (Ah5 call 150 (fun tm=>[g17 tm]) (put p18 (Abw TT call 149 27 none 0 (fun _=>C0) [(2,(Amx call round K ih0_)),(1,(Amx call round K ih0_)),(0,Zv)] Zv ((Amx call round K ih0_)))))))))))))))
def Avj(call round:Ac)(K:Nat)(ih0_:CF):CF:=
 Aro Gr (bin TT .lss 3) g12 g11 (put p13 (Ae9 g13 ((Auz call round K ih0_)) (Zv)))
def A49(call round:Ac)(K:Nat):FnT:=Atp 27 (Azx 142 g0 (put p2 (Lw g1 (put p7 (A6a g7 (put p8 (Anx 6 g8 (put p9 (Lw g9 (put p10 (A6q g10 (put p11 (mv (Kb (.int .i64 (.ofNat 0))) p12 (Aj8 (Avj call round K) K))))))))))))))
theorem A3u(call round:Ac)(K:Nat):Adq TT call round K 149=A49 call round K:=by kernel_rfl
def Afj(call round:Ac)(K l:Nat):CF:=
 Lw g2 (put p21 (Lw g3 (put p22 (mv g6 p23 (Afn call round g21 (fun tm=>[g22 tm,g23 tm]) (put p24 (Ayp g24 (put p25 (Ae9 g25 ((A9 l false .done (some .ret))) ((A9 l true .ready none)))))))))))
def Auq(call round:Ac)(K l:Nat):CF:=
 mv g20 p6 (O3 l (Afj call round K l))
theorem Ay4(call round:Ac)(K l:Nat):Lj TT call round K 149 27 (some l) (fun id=>A9 l false .done (some (.exit id))) (A9 l false .done (some .ret)) (B8 TT 149 0).2.2.1 [] (O3 l (Lj TT call round K 149 27 (some l) (fun id=>A9 l false .done (some (.exit id))) (A9 l false .done (some .ret)) (B8 TT 149 0).2.2.2 [] (A9 l true .ready none)))=Auq call round K l:=by kernel_rfl
end
end Go.Ev

namespace Go.Ev
open Go.Proofs
set_option maxRecDepth 100000
noncomputable section
def A5u:List (Nat × FT):=[(19,F19),(49,F49),(64,F64),(149,A49)]
def Aew:Nat->Option FT:=fun f=>Dc (pathOf f) (Arc A5u)
end
theorem A10:A3f TP A5u:=⟨Abe.of Am4 A6j,Abe.of Am4 A5z,Abe.of Am4 A6k,Abe.of Am4 A3u,trivial⟩
theorem Ash:∀ g F,Aew g=some F->Abe TP g F:=fun g F h=>All A10 (by rw[<-Ak0];exact h)
end Go.Ev

namespace Go.Ev
open Go.Proofs
set_option maxRecDepth 100000
noncomputable section
def mb(n:Nat):EV:=.int .u8 (.ofNat n)
def Bc:List EV:=[.int .u32 (.ofNat 0),.int .u32 (.ofNat 4067132163),.int .u32 (.ofNat 3778769143),.int .u32 (.ofNat 324072436),.int .u32 (.ofNat 3348797215),.int .u32 (.ofNat 904991772),.int .u32 (.ofNat 648144872),.int .u32 (.ofNat 3570033899),.int .u32 (.ofNat 2329499855),.int .u32 (.ofNat 2024987596),.int .u32 (.ofNat 1809983544),.int .u32 (.ofNat 2575936315),.int .u32 (.ofNat 1296289744),.int .u32 (.ofNat 3207089363),.int .u32 (.ofNat 2893594407),.int .u32 (.ofNat 1578318884),.int .u32 (.ofNat 274646895),.int .u32 (.ofNat 3795141740),.int .u32 (.ofNat 4049975192),.int .u32 (.ofNat 51262619),.int .u32 (.ofNat 3619967088),.int .u32 (.ofNat 632279923),.int .u32 (.ofNat 922689671),.int .u32 (.ofNat 3298075524),.int .u32 (.ofNat 2592579488),.int .u32 (.ofNat 1760304291),.int .u32 (.ofNat 2075979607),.int .u32 (.ofNat 2312596564),.int .u32 (.ofNat 1562183871),.int .u32 (.ofNat 2943781820),.int .u32 (.ofNat 3156637768),.int .u32 (.ofNat 1313733451),.int .u32 (.ofNat 549293790),.int .u32 (.ofNat 3537243613),.int .u32 (.ofNat 3246849577),.int .u32 (.ofNat 871202090),.int .u32 (.ofNat 3878099393),.int .u32 (.ofNat 357341890),.int .u32 (.ofNat 102525238),.int .u32 (.ofNat 4101499445),.int .u32 (.ofNat 2858735121),.int .u32 (.ofNat 1477399826),.int .u32 (.ofNat 1264559846),.int .u32 (.ofNat 3107202533),.int .u32 (.ofNat 1845379342),.int .u32 (.ofNat 2677391885),.int .u32 (.ofNat 2361733625),.int .u32 (.ofNat 2125378298),.int .u32 (.ofNat 820201905),.int .u32 (.ofNat 3263744690),.int .u32 (.ofNat 3520608582),.int .u32 (.ofNat 598981189),.int .u32 (.ofNat 4151959214),.int .u32 (.ofNat 85089709),.int .u32 (.ofNat 373468761),.int .u32 (.ofNat 3827903834),.int .u32 (.ofNat 3124367742),.int .u32 (.ofNat 1213305469),.int .u32 (.ofNat 1526817161),.int .u32 (.ofNat 2842354314),.int .u32 (.ofNat 2107672161),.int .u32 (.ofNat 2412447074),.int .u32 (.ofNat 2627466902),.int .u32 (.ofNat 1861252501),.int .u32 (.ofNat 1098587580),.int .u32 (.ofNat 3004210879),.int .u32 (.ofNat 2688576843),.int .u32 (.ofNat 1378610760),.int .u32 (.ofNat 2262928035),.int .u32 (.ofNat 1955203488),.int .u32 (.ofNat 1742404180),.int .u32 (.ofNat 2511436119),.int .u32 (.ofNat 3416409459),.int .u32 (.ofNat 969524848),.int .u32 (.ofNat 714683780),.int .u32 (.ofNat 3639785095),.int .u32 (.ofNat 205050476),.int .u32 (.ofNat 4266873199),.int .u32 (.ofNat 3976438427),.int .u32 (.ofNat 526918040),.int .u32 (.ofNat 1361435347),.int .u32 (.ofNat 2739821008),.int .u32 (.ofNat 2954799652),.int .u32 (.ofNat 1114974503),.int .u32 (.ofNat 2529119692),.int .u32 (.ofNat 1691668175),.int .u32 (.ofNat 2005155131),.int .u32 (.ofNat 2247081528),.int .u32 (.ofNat 3690758684),.int .u32 (.ofNat 697762079),.int .u32 (.ofNat 986182379),.int .u32 (.ofNat 3366744552),.int .u32 (.ofNat 476452099),.int .u32 (.ofNat 3993867776),.int .u32 (.ofNat 4250756596),.int .u32 (.ofNat 255256311),.int .u32 (.ofNat 1640403810),.int .u32 (.ofNat 2477592673),.int .u32 (.ofNat 2164122517),.int .u32 (.ofNat 1922457750),.int .u32 (.ofNat 2791048317),.int .u32 (.ofNat 1412925310),.int .u32 (.ofNat 1197962378),.int .u32 (.ofNat 3037525897),.int .u32 (.ofNat 3944729517),.int .u32 (.ofNat 427051182),.int .u32 (.ofNat 170179418),.int .u32 (.ofNat 4165941337),.int .u32 (.ofNat 746937522),.int .u32 (.ofNat 3740196785),.int .u32 (.ofNat 3451792453),.int .u32 (.ofNat 1070968646),.int .u32 (.ofNat 1905808397),.int .u32 (.ofNat 2213795598),.int .u32 (.ofNat 2426610938),.int .u32 (.ofNat 1657317369),.int .u32 (.ofNat 3053634322),.int .u32 (.ofNat 1147748369),.int .u32 (.ofNat 1463399397),.int .u32 (.ofNat 2773627110),.int .u32 (.ofNat 4215344322),.int .u32 (.ofNat 153784257),.int .u32 (.ofNat 444234805),.int .u32 (.ofNat 3893493558),.int .u32 (.ofNat 1021025245),.int .u32 (.ofNat 3467647198),.int .u32 (.ofNat 3722505002),.int .u32 (.ofNat 797665321),.int .u32 (.ofNat 2197175160),.int .u32 (.ofNat 1889384571),.int .u32 (.ofNat 1674398607),.int .u32 (.ofNat 2443626636),.int .u32 (.ofNat 1164749927),.int .u32 (.ofNat 3070701412),.int .u32 (.ofNat 2757221520),.int .u32 (.ofNat 1446797203),.int .u32 (.ofNat 137323447),.int .u32 (.ofNat 4198817972),.int .u32 (.ofNat 3910406976),.int .u32 (.ofNat 461344835),.int .u32 (.ofNat 3484808360),.int .u32 (.ofNat 1037989803),.int .u32 (.ofNat 781091935),.int .u32 (.ofNat 3705997148),.int .u32 (.ofNat 2460548119),.int .u32 (.ofNat 1623424788),.int .u32 (.ofNat 1939049696),.int .u32 (.ofNat 2180517859),.int .u32 (.ofNat 1429367560),.int .u32 (.ofNat 2807687179),.int .u32 (.ofNat 3020495871),.int .u32 (.ofNat 1180866812),.int .u32 (.ofNat 410100952),.int .u32 (.ofNat 3927582683),.int .u32 (.ofNat 4182430767),.int .u32 (.ofNat 186734380),.int .u32 (.ofNat 3756733383),.int .u32 (.ofNat 763408580),.int .u32 (.ofNat 1053836080),.int .u32 (.ofNat 3434856499),.int .u32 (.ofNat 2722870694),.int .u32 (.ofNat 1344288421),.int .u32 (.ofNat 1131464017),.int .u32 (.ofNat 2971354706),.int .u32 (.ofNat 1708204729),.int .u32 (.ofNat 2545590714),.int .u32 (.ofNat 2229949006),.int .u32 (.ofNat 1988219213),.int .u32 (.ofNat 680717673),.int .u32 (.ofNat 3673779818),.int .u32 (.ofNat 3383336350),.int .u32 (.ofNat 1002577565),.int .u32 (.ofNat 4010310262),.int .u32 (.ofNat 493091189),.int .u32 (.ofNat 238226049),.int .u32 (.ofNat 4233660802),.int .u32 (.ofNat 2987750089),.int .u32 (.ofNat 1082061258),.int .u32 (.ofNat 1395524158),.int .u32 (.ofNat 2705686845),.int .u32 (.ofNat 1972364758),.int .u32 (.ofNat 2279892693),.int .u32 (.ofNat 2494862625),.int .u32 (.ofNat 1725896226),.int .u32 (.ofNat 952904198),.int .u32 (.ofNat 3399985413),.int .u32 (.ofNat 3656866545),.int .u32 (.ofNat 731699698),.int .u32 (.ofNat 4283874585),.int .u32 (.ofNat 222117402),.int .u32 (.ofNat 510512622),.int .u32 (.ofNat 3959836397),.int .u32 (.ofNat 3280807620),.int .u32 (.ofNat 837199303),.int .u32 (.ofNat 582374963),.int .u32 (.ofNat 3504198960),.int .u32 (.ofNat 68661723),.int .u32 (.ofNat 4135334616),.int .u32 (.ofNat 3844915500),.int .u32 (.ofNat 390545967),.int .u32 (.ofNat 1230274059),.int .u32 (.ofNat 3141532936),.int .u32 (.ofNat 2825850620),.int .u32 (.ofNat 1510247935),.int .u32 (.ofNat 2395924756),.int .u32 (.ofNat 2091215383),.int .u32 (.ofNat 1878366691),.int .u32 (.ofNat 2644384480),.int .u32 (.ofNat 3553878443),.int .u32 (.ofNat 565732008),.int .u32 (.ofNat 854102364),.int .u32 (.ofNat 3229815391),.int .u32 (.ofNat 340358836),.int .u32 (.ofNat 3861050807),.int .u32 (.ofNat 4117890627),.int .u32 (.ofNat 119113024),.int .u32 (.ofNat 1493875044),.int .u32 (.ofNat 2875275879),.int .u32 (.ofNat 3090270611),.int .u32 (.ofNat 1247431312),.int .u32 (.ofNat 2660249211),.int .u32 (.ofNat 1828433272),.int .u32 (.ofNat 2141937292),.int .u32 (.ofNat 2378227087),.int .u32 (.ofNat 3811616794),.int .u32 (.ofNat 291187481),.int .u32 (.ofNat 34330861),.int .u32 (.ofNat 4032846830),.int .u32 (.ofNat 615137029),.int .u32 (.ofNat 3603020806),.int .u32 (.ofNat 3314634738),.int .u32 (.ofNat 939183345),.int .u32 (.ofNat 1776939221),.int .u32 (.ofNat 2609017814),.int .u32 (.ofNat 2295496738),.int .u32 (.ofNat 2058945313),.int .u32 (.ofNat 2926798794),.int .u32 (.ofNat 1545135305),.int .u32 (.ofNat 1330124605),.int .u32 (.ofNat 3173225534),.int .u32 (.ofNat 4084100981),.int .u32 (.ofNat 17165430),.int .u32 (.ofNat 307568514),.int .u32 (.ofNat 3762199681),.int .u32 (.ofNat 888469610),.int .u32 (.ofNat 3332340585),.int .u32 (.ofNat 3587147933),.int .u32 (.ofNat 665062302),.int .u32 (.ofNat 2042050490),.int .u32 (.ofNat 2346497209),.int .u32 (.ofNat 2559330125),.int .u32 (.ofNat 1793573966),.int .u32 (.ofNat 3190661285),.int .u32 (.ofNat 1279665062),.int .u32 (.ofNat 1595330642),.int .u32 (.ofNat 2910671697)]
def Ug:EV:=.agg Bc
def Aqu:FT:=fun _ _ _ args h=>@List.rec EV (fun _=>R) (some (Ug,h)) (fun _ _ _=>none) args
def Aw2(_:Nat)(h:Aa):R:=some (Ug,h)
end
structure An(disp:Nat->Option FT):Prop where
 plain:∀ g,A2j g=true->disp g=Aew g
 crc:disp 26=some Aqu
theorem Arx {disp:Nat->Option FT}(H:An disp){K d:Nat}(hd:1<=d)(h:Aa):Ad TT disp K d false 26 [] h=Aw2 K h:=by
 obtain⟨d,rfl⟩:∃ e,d=e+1:=⟨d-1,by omega⟩
 rw[Xy H.crc];rfl
noncomputable def A7k(g:Nat):Bool:=Ar (A2j g) (match Aew g with|none=>true|some _=>false) false
theorem An.bare {disp:Nat->Option FT}(H:An disp){g:Nat}(e:A7k g=true):disp g=none:=by
 obtain⟨h1,h2⟩:=Qq e
 rw[H.plain g h1]
 cases hx:Aew g with
 | none=>rfl
 | some _=>rw[hx]at h2;cases h2
theorem Rc {disp:Nat->Option FT}{g d K:Nat}{args:List EV}{h:Aa}{X:R}{C:Ac}{B:CD}(hn:disp g=none)(hk:A6v TT g (K9 args)=true)(e:Ad TT disp K d false=C)
 (hx:Ll TT C (Ad TT disp K d false) (Ad TT disp K d true) K (nOf TT g) (Eg TT g) .no (Aiu TT g) [] (Eg TT g)=B) (hy:B (Am3 args 0 u0) h=X):Ad TT disp K (d+1) false g args h=X:=by
 have e0:Ad TT disp K (d+1) false g args h=Adq TT (Ad TT disp K d false) (Ad TT disp K d true) K g args h:=by
  have e:Ad TT disp K (d+1) false g args h = @Option.rec FT (fun _=>FnT) (Adq TT (Ad TT disp K d false) (Ad TT disp K d true) K g) (fun F=>F (Ad TT disp K d false) (Ad TT disp K d true) K) (disp g) args h:=rfl
  rw[e,hn]
 rw[e0,Ay6 hk]
 exact(congrArg (fun C=>Ll TT C (Ad TT disp K d false) (Ad TT disp K d true) K (nOf TT g) (Eg TT g) .no (Aiu TT g) [] (Eg TT g) (Am3 args 0 u0) h) e).trans ((congrFun (congrFun hx _) h).trans hy)
theorem Cp {disp:Nat->Option FT}{g m d K:Nat}{args:List EV}{h:Aa}{X:R}{C:Nat->Ac}{B:Nat->Ac->Ac->CD}(hn:disp g=none)(hd:m+1<=d)(hk:A6v TT g (K9 args)=true)
 (e:∀ d,m<=d->Ad TT disp K d false=C d) (hx:∀ d c r,Ll TT (C d) c r K (nOf TT g) (Eg TT g) .no (Aiu TT g) [] (Eg TT g)=B d c r) (hy:∀ d c r,B d c r (Am3 args 0 u0) h=X):Ad TT disp K d false g args h=X:=by
 obtain⟨d,rfl⟩:∃ e,d=e+1:=⟨d-1,by omega⟩
 exact Rc hn hk (e d (Nat.le_of_succ_le_succ hd)) (hx _ _ _) (hy _ _ _)
end Go.Ev
