import Derived.Test.YtpkcfamminlmaaaGreatTab
import Derived.Test.YtpkcfamminlmaaaGreatEvSix
set_option linter.unusedVariables false
set_option linter.unusedSimpArgs false
set_option linter.unusedSectionVars false
namespace Go.Ev
open Go.Proofs
set_option maxRecDepth 100000
noncomputable section
def o0:Ah->Option EV:=Tr.top
def g0:EF:=gO o0
def p0:PF:=Tr.Gr
theorem A8j(tm:Ah):g0 tm=tmp tm 0:=G0 (show o0=Fq (pathOf 0) by kernel_rfl) tm
theorem A7z(v:Option EV)(tm:Ah):p0 v tm=tm.put 0 v:=Gz (show p0=Mn (pathOf 0) by kernel_rfl) v tm
theorem A79(w:Bool)(tm:Ah):Cx o0 w tm=As (tmp tm 0) w:=B6 (show o0=Fq (pathOf 0) by kernel_rfl) w tm
def o1:Ah->Option EV:=Tr.Vf (Tr.top)
def g1:EF:=gO o1
def p1:PF:=Tr.I9 (Tr.Gr)
theorem A8q(tm:Ah):g1 tm=tmp tm 1:=G0 (show o1=Fq (pathOf 1) by kernel_rfl) tm
theorem A7t(v:Option EV)(tm:Ah):p1 v tm=tm.put 1 v:=Gz (show p1=Mn (pathOf 1) by kernel_rfl) v tm
theorem A7x(w:Bool)(tm:Ah):Cx o1 w tm=As (tmp tm 1) w:=B6 (show o1=Fq (pathOf 1) by kernel_rfl) w tm
def o2:Ah->Option EV:=Tr.Zy (Tr.top)
def g2:EF:=gO o2
def p2:PF:=Tr.Ly (Tr.Gr)
theorem A73(tm:Ah):g2 tm=tmp tm 2:=G0 (show o2=Fq (pathOf 2) by kernel_rfl) tm
theorem A8d(v:Option EV)(tm:Ah):p2 v tm=tm.put 2 v:=Gz (show p2=Mn (pathOf 2) by kernel_rfl) v tm
theorem A74(w:Bool)(tm:Ah):Cx o2 w tm=As (tmp tm 2) w:=B6 (show o2=Fq (pathOf 2) by kernel_rfl) w tm
def o3:Ah->Option EV:=Tr.Vf (Tr.Vf (Tr.top))
def g3:EF:=gO o3
def p3:PF:=Tr.I9 (Tr.I9 (Tr.Gr))
theorem A75(tm:Ah):g3 tm=tmp tm 3:=G0 (show o3=Fq (pathOf 3) by kernel_rfl) tm
theorem A8m(v:Option EV)(tm:Ah):p3 v tm=tm.put 3 v:=Gz (show p3=Mn (pathOf 3) by kernel_rfl) v tm
theorem A8k(w:Bool)(tm:Ah):Cx o3 w tm=As (tmp tm 3) w:=B6 (show o3=Fq (pathOf 3) by kernel_rfl) w tm
def o4:Ah->Option EV:=Tr.Zy (Tr.Vf (Tr.top))
def g4:EF:=gO o4
def p4:PF:=Tr.Ly (Tr.I9 (Tr.Gr))
theorem A8a(tm:Ah):g4 tm=tmp tm 4:=G0 (show o4=Fq (pathOf 4) by kernel_rfl) tm
theorem A71(v:Option EV)(tm:Ah):p4 v tm=tm.put 4 v:=Gz (show p4=Mn (pathOf 4) by kernel_rfl) v tm
theorem A7y(w:Bool)(tm:Ah):Cx o4 w tm=As (tmp tm 4) w:=B6 (show o4=Fq (pathOf 4) by kernel_rfl) w tm
def o5:Ah->Option EV:=Tr.Vf (Tr.Zy (Tr.top))
def g5:EF:=gO o5
def p5:PF:=Tr.I9 (Tr.Ly (Tr.Gr))
theorem A7q(tm:Ah):g5 tm=tmp tm 5:=G0 (show o5=Fq (pathOf 5) by kernel_rfl) tm
theorem A7r(v:Option EV)(tm:Ah):p5 v tm=tm.put 5 v:=Gz (show p5=Mn (pathOf 5) by kernel_rfl) v tm
theorem A72(w:Bool)(tm:Ah):Cx o5 w tm=As (tmp tm 5) w:=B6 (show o5=Fq (pathOf 5) by kernel_rfl) w tm
def o6:Ah->Option EV:=Tr.Zy (Tr.Zy (Tr.top))
def g6:EF:=gO o6
def p6:PF:=Tr.Ly (Tr.Ly (Tr.Gr))
theorem A76(tm:Ah):g6 tm=tmp tm 6:=G0 (show o6=Fq (pathOf 6) by kernel_rfl) tm
theorem A77(v:Option EV)(tm:Ah):p6 v tm=tm.put 6 v:=Gz (show p6=Mn (pathOf 6) by kernel_rfl) v tm
theorem A70(w:Bool)(tm:Ah):Cx o6 w tm=As (tmp tm 6) w:=B6 (show o6=Fq (pathOf 6) by kernel_rfl) w tm
def o7:Ah->Option EV:=Tr.Vf (Tr.Vf (Tr.Vf (Tr.top)))
def g7:EF:=gO o7
def p7:PF:=Tr.I9 (Tr.I9 (Tr.I9 (Tr.Gr)))
theorem A8p(tm:Ah):g7 tm=tmp tm 7:=G0 (show o7=Fq (pathOf 7) by kernel_rfl) tm
theorem A8c(v:Option EV)(tm:Ah):p7 v tm=tm.put 7 v:=Gz (show p7=Mn (pathOf 7) by kernel_rfl) v tm
theorem A7v(w:Bool)(tm:Ah):Cx o7 w tm=As (tmp tm 7) w:=B6 (show o7=Fq (pathOf 7) by kernel_rfl) w tm
def o8:Ah->Option EV:=Tr.Zy (Tr.Vf (Tr.Vf (Tr.top)))
def g8:EF:=gO o8
def p8:PF:=Tr.Ly (Tr.I9 (Tr.I9 (Tr.Gr)))
theorem A7u(tm:Ah):g8 tm=tmp tm 8:=G0 (show o8=Fq (pathOf 8) by kernel_rfl) tm
theorem A8i(v:Option EV)(tm:Ah):p8 v tm=tm.put 8 v:=Gz (show p8=Mn (pathOf 8) by kernel_rfl) v tm
theorem A8b(w:Bool)(tm:Ah):Cx o8 w tm=As (tmp tm 8) w:=B6 (show o8=Fq (pathOf 8) by kernel_rfl) w tm
def o9:Ah->Option EV:=Tr.Vf (Tr.Zy (Tr.Vf (Tr.top)))
def g9:EF:=gO o9
def p9:PF:=Tr.I9 (Tr.Ly (Tr.I9 (Tr.Gr)))
theorem A7w(tm:Ah):g9 tm=tmp tm 9:=G0 (show o9=Fq (pathOf 9) by kernel_rfl) tm
theorem A8h(v:Option EV)(tm:Ah):p9 v tm=tm.put 9 v:=Gz (show p9=Mn (pathOf 9) by kernel_rfl) v tm
theorem A7s(w:Bool)(tm:Ah):Cx o9 w tm=As (tmp tm 9) w:=B6 (show o9=Fq (pathOf 9) by kernel_rfl) w tm
def o10:Ah->Option EV:=Tr.Zy (Tr.Zy (Tr.Vf (Tr.top)))
def g10:EF:=gO o10
def p10:PF:=Tr.Ly (Tr.Ly (Tr.I9 (Tr.Gr)))
theorem A6j(tm:Ah):g10 tm=tmp tm 10:=G0 (show o10=Fq (pathOf 10) by kernel_rfl) tm
theorem A6u(v:Option EV)(tm:Ah):p10 v tm=tm.put 10 v:=Gz (show p10=Mn (pathOf 10) by kernel_rfl) v tm
theorem A6z(w:Bool)(tm:Ah):Cx o10 w tm=As (tmp tm 10) w:=B6 (show o10=Fq (pathOf 10) by kernel_rfl) w tm
def o11:Ah->Option EV:=Tr.Vf (Tr.Vf (Tr.Zy (Tr.top)))
def g11:EF:=gO o11
def p11:PF:=Tr.I9 (Tr.I9 (Tr.Ly (Tr.Gr)))
theorem A50(tm:Ah):g11 tm=tmp tm 11:=G0 (show o11=Fq (pathOf 11) by kernel_rfl) tm
theorem A6k(v:Option EV)(tm:Ah):p11 v tm=tm.put 11 v:=Gz (show p11=Mn (pathOf 11) by kernel_rfl) v tm
theorem A52(w:Bool)(tm:Ah):Cx o11 w tm=As (tmp tm 11) w:=B6 (show o11=Fq (pathOf 11) by kernel_rfl) w tm
def o12:Ah->Option EV:=Tr.Zy (Tr.Vf (Tr.Zy (Tr.top)))
def g12:EF:=gO o12
def p12:PF:=Tr.Ly (Tr.I9 (Tr.Ly (Tr.Gr)))
theorem A6g(tm:Ah):g12 tm=tmp tm 12:=G0 (show o12=Fq (pathOf 12) by kernel_rfl) tm
theorem A7l(v:Option EV)(tm:Ah):p12 v tm=tm.put 12 v:=Gz (show p12=Mn (pathOf 12) by kernel_rfl) v tm
theorem A6x(w:Bool)(tm:Ah):Cx o12 w tm=As (tmp tm 12) w:=B6 (show o12=Fq (pathOf 12) by kernel_rfl) w tm
def o13:Ah->Option EV:=Tr.Vf (Tr.Zy (Tr.Zy (Tr.top)))
def g13:EF:=gO o13
def p13:PF:=Tr.I9 (Tr.Ly (Tr.Ly (Tr.Gr)))
theorem A59(tm:Ah):g13 tm=tmp tm 13:=G0 (show o13=Fq (pathOf 13) by kernel_rfl) tm
theorem A6q(v:Option EV)(tm:Ah):p13 v tm=tm.put 13 v:=Gz (show p13=Mn (pathOf 13) by kernel_rfl) v tm
theorem A7p(w:Bool)(tm:Ah):Cx o13 w tm=As (tmp tm 13) w:=B6 (show o13=Fq (pathOf 13) by kernel_rfl) w tm
def o14:Ah->Option EV:=Tr.Zy (Tr.Zy (Tr.Zy (Tr.top)))
def g14:EF:=gO o14
def p14:PF:=Tr.Ly (Tr.Ly (Tr.Ly (Tr.Gr)))
theorem A6c(tm:Ah):g14 tm=tmp tm 14:=G0 (show o14=Fq (pathOf 14) by kernel_rfl) tm
theorem A5t(v:Option EV)(tm:Ah):p14 v tm=tm.put 14 v:=Gz (show p14=Mn (pathOf 14) by kernel_rfl) v tm
theorem A66(w:Bool)(tm:Ah):Cx o14 w tm=As (tmp tm 14) w:=B6 (show o14=Fq (pathOf 14) by kernel_rfl) w tm
def o15:Ah->Option EV:=Tr.Vf (Tr.Vf (Tr.Vf (Tr.Vf (Tr.top))))
def g15:EF:=gO o15
def p15:PF:=Tr.I9 (Tr.I9 (Tr.I9 (Tr.I9 (Tr.Gr))))
theorem A7e(tm:Ah):g15 tm=tmp tm 15:=G0 (show o15=Fq (pathOf 15) by kernel_rfl) tm
theorem A60(v:Option EV)(tm:Ah):p15 v tm=tm.put 15 v:=Gz (show p15=Mn (pathOf 15) by kernel_rfl) v tm
theorem A6r(w:Bool)(tm:Ah):Cx o15 w tm=As (tmp tm 15) w:=B6 (show o15=Fq (pathOf 15) by kernel_rfl) w tm
def o16:Ah->Option EV:=Tr.Zy (Tr.Vf (Tr.Vf (Tr.Vf (Tr.top))))
def g16:EF:=gO o16
def p16:PF:=Tr.Ly (Tr.I9 (Tr.I9 (Tr.I9 (Tr.Gr))))
theorem A61(tm:Ah):g16 tm=tmp tm 16:=G0 (show o16=Fq (pathOf 16) by kernel_rfl) tm
theorem A6o(v:Option EV)(tm:Ah):p16 v tm=tm.put 16 v:=Gz (show p16=Mn (pathOf 16) by kernel_rfl) v tm
theorem A7i(w:Bool)(tm:Ah):Cx o16 w tm=As (tmp tm 16) w:=B6 (show o16=Fq (pathOf 16) by kernel_rfl) w tm
def o17:Ah->Option EV:=Tr.Vf (Tr.Zy (Tr.Vf (Tr.Vf (Tr.top))))
def g17:EF:=gO o17
def p17:PF:=Tr.I9 (Tr.Ly (Tr.I9 (Tr.I9 (Tr.Gr))))
theorem A6i(tm:Ah):g17 tm=tmp tm 17:=G0 (show o17=Fq (pathOf 17) by kernel_rfl) tm
theorem A5u(v:Option EV)(tm:Ah):p17 v tm=tm.put 17 v:=Gz (show p17=Mn (pathOf 17) by kernel_rfl) v tm
theorem A7k(w:Bool)(tm:Ah):Cx o17 w tm=As (tmp tm 17) w:=B6 (show o17=Fq (pathOf 17) by kernel_rfl) w tm
def o18:Ah->Option EV:=Tr.Zy (Tr.Zy (Tr.Vf (Tr.Vf (Tr.top))))
def g18:EF:=gO o18
def p18:PF:=Tr.Ly (Tr.Ly (Tr.I9 (Tr.I9 (Tr.Gr))))
theorem A5w(tm:Ah):g18 tm=tmp tm 18:=G0 (show o18=Fq (pathOf 18) by kernel_rfl) tm
theorem A63(v:Option EV)(tm:Ah):p18 v tm=tm.put 18 v:=Gz (show p18=Mn (pathOf 18) by kernel_rfl) v tm
theorem A6y(w:Bool)(tm:Ah):Cx o18 w tm=As (tmp tm 18) w:=B6 (show o18=Fq (pathOf 18) by kernel_rfl) w tm
def o19:Ah->Option EV:=Tr.Vf (Tr.Vf (Tr.Zy (Tr.Vf (Tr.top))))
def g19:EF:=gO o19
def p19:PF:=Tr.I9 (Tr.I9 (Tr.Ly (Tr.I9 (Tr.Gr))))
theorem A5q(tm:Ah):g19 tm=tmp tm 19:=G0 (show o19=Fq (pathOf 19) by kernel_rfl) tm
theorem A7c(v:Option EV)(tm:Ah):p19 v tm=tm.put 19 v:=Gz (show p19=Mn (pathOf 19) by kernel_rfl) v tm
theorem A64(w:Bool)(tm:Ah):Cx o19 w tm=As (tmp tm 19) w:=B6 (show o19=Fq (pathOf 19) by kernel_rfl) w tm
def o20:Ah->Option EV:=Tr.Zy (Tr.Vf (Tr.Zy (Tr.Vf (Tr.top))))
def g20:EF:=gO o20
def p20:PF:=Tr.Ly (Tr.I9 (Tr.Ly (Tr.I9 (Tr.Gr))))
theorem A51(tm:Ah):g20 tm=tmp tm 20:=G0 (show o20=Fq (pathOf 20) by kernel_rfl) tm
theorem A7m(v:Option EV)(tm:Ah):p20 v tm=tm.put 20 v:=Gz (show p20=Mn (pathOf 20) by kernel_rfl) v tm
theorem A7o(w:Bool)(tm:Ah):Cx o20 w tm=As (tmp tm 20) w:=B6 (show o20=Fq (pathOf 20) by kernel_rfl) w tm
def o21:Ah->Option EV:=Tr.Vf (Tr.Zy (Tr.Zy (Tr.Vf (Tr.top))))
def g21:EF:=gO o21
def p21:PF:=Tr.I9 (Tr.Ly (Tr.Ly (Tr.I9 (Tr.Gr))))
theorem A56(tm:Ah):g21 tm=tmp tm 21:=G0 (show o21=Fq (pathOf 21) by kernel_rfl) tm
theorem A55(v:Option EV)(tm:Ah):p21 v tm=tm.put 21 v:=Gz (show p21=Mn (pathOf 21) by kernel_rfl) v tm
theorem A5r(w:Bool)(tm:Ah):Cx o21 w tm=As (tmp tm 21) w:=B6 (show o21=Fq (pathOf 21) by kernel_rfl) w tm
def o22:Ah->Option EV:=Tr.Zy (Tr.Zy (Tr.Zy (Tr.Vf (Tr.top))))
def g22:EF:=gO o22
def p22:PF:=Tr.Ly (Tr.Ly (Tr.Ly (Tr.I9 (Tr.Gr))))
theorem A7h(tm:Ah):g22 tm=tmp tm 22:=G0 (show o22=Fq (pathOf 22) by kernel_rfl) tm
theorem A58(v:Option EV)(tm:Ah):p22 v tm=tm.put 22 v:=Gz (show p22=Mn (pathOf 22) by kernel_rfl) v tm
theorem A6s(w:Bool)(tm:Ah):Cx o22 w tm=As (tmp tm 22) w:=B6 (show o22=Fq (pathOf 22) by kernel_rfl) w tm
def o23:Ah->Option EV:=Tr.Vf (Tr.Vf (Tr.Vf (Tr.Zy (Tr.top))))
def g23:EF:=gO o23
def p23:PF:=Tr.I9 (Tr.I9 (Tr.I9 (Tr.Ly (Tr.Gr))))
theorem A5v(tm:Ah):g23 tm=tmp tm 23:=G0 (show o23=Fq (pathOf 23) by kernel_rfl) tm
theorem A6l(v:Option EV)(tm:Ah):p23 v tm=tm.put 23 v:=Gz (show p23=Mn (pathOf 23) by kernel_rfl) v tm
theorem A7f(w:Bool)(tm:Ah):Cx o23 w tm=As (tmp tm 23) w:=B6 (show o23=Fq (pathOf 23) by kernel_rfl) w tm
def o24:Ah->Option EV:=Tr.Zy (Tr.Vf (Tr.Vf (Tr.Zy (Tr.top))))
def g24:EF:=gO o24
def p24:PF:=Tr.Ly (Tr.I9 (Tr.I9 (Tr.Ly (Tr.Gr))))
theorem A6b(tm:Ah):g24 tm=tmp tm 24:=G0 (show o24=Fq (pathOf 24) by kernel_rfl) tm
theorem A6e(v:Option EV)(tm:Ah):p24 v tm=tm.put 24 v:=Gz (show p24=Mn (pathOf 24) by kernel_rfl) v tm
theorem A7d(w:Bool)(tm:Ah):Cx o24 w tm=As (tmp tm 24) w:=B6 (show o24=Fq (pathOf 24) by kernel_rfl) w tm
def o25:Ah->Option EV:=Tr.Vf (Tr.Zy (Tr.Vf (Tr.Zy (Tr.top))))
def g25:EF:=gO o25
def p25:PF:=Tr.I9 (Tr.Ly (Tr.I9 (Tr.Ly (Tr.Gr))))
theorem A6a(tm:Ah):g25 tm=tmp tm 25:=G0 (show o25=Fq (pathOf 25) by kernel_rfl) tm
theorem A67(v:Option EV)(tm:Ah):p25 v tm=tm.put 25 v:=Gz (show p25=Mn (pathOf 25) by kernel_rfl) v tm
theorem A6f(w:Bool)(tm:Ah):Cx o25 w tm=As (tmp tm 25) w:=B6 (show o25=Fq (pathOf 25) by kernel_rfl) w tm
def o26:Ah->Option EV:=Tr.Zy (Tr.Zy (Tr.Vf (Tr.Zy (Tr.top))))
def g26:EF:=gO o26
def p26:PF:=Tr.Ly (Tr.Ly (Tr.I9 (Tr.Ly (Tr.Gr))))
theorem A6d(tm:Ah):g26 tm=tmp tm 26:=G0 (show o26=Fq (pathOf 26) by kernel_rfl) tm
theorem A53(v:Option EV)(tm:Ah):p26 v tm=tm.put 26 v:=Gz (show p26=Mn (pathOf 26) by kernel_rfl) v tm
theorem A7g(w:Bool)(tm:Ah):Cx o26 w tm=As (tmp tm 26) w:=B6 (show o26=Fq (pathOf 26) by kernel_rfl) w tm
theorem tt0:(∀ tm,g0 tm=tmp tm 0)/\(∀ v tm,p0 v tm=tm.put 0 v)/\(∀ w tm,Cx o0 w tm=As (tmp tm 0) w)/\(∀ tm,g1 tm=tmp tm 1)/\(∀ v tm,p1 v tm=tm.put 1 v)/\(∀ w tm,Cx o1 w tm=As (tmp tm 1) w)/\(∀ tm,g2 tm=tmp tm 2)/\(∀ v tm,p2 v tm=tm.put 2 v)/\(∀ w tm,Cx o2 w tm=As (tmp tm 2) w)/\(∀ tm,g3 tm=tmp tm 3)/\(∀ v tm,p3 v tm=tm.put 3 v)/\(∀ w tm,Cx o3 w tm=As (tmp tm 3) w)/\(∀ tm,g4 tm=tmp tm 4)/\(∀ v tm,p4 v tm=tm.put 4 v)/\(∀ w tm,Cx o4 w tm=As (tmp tm 4) w)/\(∀ tm,g5 tm=tmp tm 5)/\(∀ v tm,p5 v tm=tm.put 5 v)/\(∀ w tm,Cx o5 w tm=As (tmp tm 5) w)/\(∀ tm,g6 tm=tmp tm 6)/\(∀ v tm,p6 v tm=tm.put 6 v)/\(∀ w tm,Cx o6 w tm=As (tmp tm 6) w)/\(∀ tm,g7 tm=tmp tm 7)/\(∀ v tm,p7 v tm=tm.put 7 v)/\(∀ w tm,Cx o7 w tm=As (tmp tm 7) w)/\(∀ tm,g8 tm=tmp tm 8)/\(∀ v tm,p8 v tm=tm.put 8 v)/\(∀ w tm,Cx o8 w tm=As (tmp tm 8) w)/\(∀ tm,g9 tm=tmp tm 9)/\(∀ v tm,p9 v tm=tm.put 9 v)/\(∀ w tm,Cx o9 w tm=As (tmp tm 9) w)/\(∀ tm,g10 tm=tmp tm 10)/\(∀ v tm,p10 v tm=tm.put 10 v)/\(∀ w tm,Cx o10 w tm=As (tmp tm 10) w)/\(∀ tm,g11 tm=tmp tm 11)/\(∀ v tm,p11 v tm=tm.put 11 v)/\(∀ w tm,Cx o11 w tm=As (tmp tm 11) w)/\(∀ tm,g12 tm=tmp tm 12)/\(∀ v tm,p12 v tm=tm.put 12 v)/\(∀ w tm,Cx o12 w tm=As (tmp tm 12) w)/\(∀ tm,g13 tm=tmp tm 13)/\(∀ v tm,p13 v tm=tm.put 13 v)/\(∀ w tm,Cx o13 w tm=As (tmp tm 13) w)/\(∀ tm,g14 tm=tmp tm 14)/\(∀ v tm,p14 v tm=tm.put 14 v)/\(∀ w tm,Cx o14 w tm=As (tmp tm 14) w)/\(∀ tm,g15 tm=tmp tm 15)/\(∀ v tm,p15 v tm=tm.put 15 v)/\(∀ w tm,Cx o15 w tm=As (tmp tm 15) w)/\(∀ tm,g16 tm=tmp tm 16)/\(∀ v tm,p16 v tm=tm.put 16 v)/\(∀ w tm,Cx o16 w tm=As (tmp tm 16) w)/\(∀ tm,g17 tm=tmp tm 17)/\(∀ v tm,p17 v tm=tm.put 17 v)/\(∀ w tm,Cx o17 w tm=As (tmp tm 17) w)/\(∀ tm,g18 tm=tmp tm 18)/\(∀ v tm,p18 v tm=tm.put 18 v)/\(∀ w tm,Cx o18 w tm=As (tmp tm 18) w)/\(∀ tm,g19 tm=tmp tm 19)/\(∀ v tm,p19 v tm=tm.put 19 v)/\(∀ w tm,Cx o19 w tm=As (tmp tm 19) w)/\(∀ tm,g20 tm=tmp tm 20)/\(∀ v tm,p20 v tm=tm.put 20 v)/\(∀ w tm,Cx o20 w tm=As (tmp tm 20) w)/\(∀ tm,g21 tm=tmp tm 21)/\(∀ v tm,p21 v tm=tm.put 21 v)/\(∀ w tm,Cx o21 w tm=As (tmp tm 21) w)/\(∀ tm,g22 tm=tmp tm 22)/\(∀ v tm,p22 v tm=tm.put 22 v)/\(∀ w tm,Cx o22 w tm=As (tmp tm 22) w)/\(∀ tm,g23 tm=tmp tm 23)/\(∀ v tm,p23 v tm=tm.put 23 v)/\(∀ w tm,Cx o23 w tm=As (tmp tm 23) w)/\(∀ tm,g24 tm=tmp tm 24)/\(∀ v tm,p24 v tm=tm.put 24 v)/\(∀ w tm,Cx o24 w tm=As (tmp tm 24) w)/\(∀ tm,g25 tm=tmp tm 25)/\(∀ v tm,p25 v tm=tm.put 25 v)/\(∀ w tm,Cx o25 w tm=As (tmp tm 25) w)/\(∀ tm,g26 tm=tmp tm 26)/\(∀ v tm,p26 v tm=tm.put 26 v)/\(∀ w tm,Cx o26 w tm=As (tmp tm 26) w):=⟨A8j,A7z,A79,A8q,A7t,A7x,A73,A8d,A74,A75,A8m,A8k,A8a,A71,A7y,A7q,A7r,A72,A76,A77,A70,A8p,A8c,A7v,A7u,A8i,A8b,A7w,A8h,A7s,A6j,A6u,A6z,A50,A6k,A52,A6g,A7l,A6x,A59,A6q,A7p,A6c,A5t,A66,A7e,A60,A6r,A61,A6o,A7i,A6i,A5u,A7k,A5w,A63,A6y,A5q,A7c,A64,A51,A7m,A7o,A56,A55,A5r,A7h,A58,A6s,A5v,A6l,A7f,A6b,A6e,A7d,A6a,A67,A6f,A6d,A53,A7g⟩
end
end Go.Ev

namespace Go.Ev
open Go.Proofs
set_option maxRecDepth 100000
noncomputable section
def Apy:CF:=(Aiq TT [.cell 4 4])
def Aup(call round:Ac)(K:Nat):CF:=
 Akh 1 g4 (Ab2 (.bool false)) (Au2 (Apy))
def F49(call round:Ac)(K:Nat):FnT:=Axf 14 (A2g 3 g1 (put p3 (An9 [(.bool false)] 4 (put p4 (mv g0 p7 (Avw call 105 (fun tm=>[g7 tm]) (put p8 (Ahl TT call 49 14 none 0 (fun _=>C4) [(0,(Aup call round K))] Apy ((Aup call round K))))))))))
theorem A4y(call round:Ac)(K:Nat):Aef TT call round K 49=F49 call round K:=by kernel_rfl
def Ahg(call round:Ac)(K l:Nat):CF:=
 mv g6 p11 (Xa g3 (put p12 (Aw4 Gj (bin TT .eql 3) g11 g12 (put p13 (Ajp g13 (Akh 1 g4 (Ab2 (.bool true)) (Au2 ((Bw l false .done (some .ret))))) ((Bw l true .ready none)))))))
def Azy(call round:Ac)(K l:Nat):CF:=
 mv g10 p6 (U9 l (Ahg call round K l))
theorem A1t(call round:Ac)(K l:Nat):Ov TT call round K 49 14 (some l) (fun id=>Bw l false .done (some (.exit id))) (Bw l false .done (some .ret)) (D1 TT 49 0).2.2.1 [] (U9 l (Ov TT call round K 49 14 (some l) (fun id=>Bw l false .done (some (.exit id))) (Bw l false .done (some .ret)) (D1 TT 49 0).2.2.2 [] (Bw l true .ready none)))=Azy call round K l:=by kernel_rfl
def Yo:CF:=A54
def Ald(call round:Ac)(K:Nat)(ih0_:CF):CF:=
 Aw4 Ip (bin TT .add 3) g12 (Ab2 (.int .i64 (.ofNat 1))) (put p26 (mv g26 p12 (ih0_)))
def Atg(call round:Ac)(K:Nat)(ih0_:CF):CF:=
 mv g12 p14 (Akl 1 g10 g12 (put p15 (Xa g15 (put p16 (An9 [(.int .i64 (.ofNat 0))] 3 (put p3 (Akh 1 g3 g14 (Au2 (mv g16 p4 (mv g4 p17 (Avw call 150 (fun tm=>[g17 tm]) (put p18 (Ahl TT call 149 27 none 0 (fun _=>C4) [(2,(Ald call round K ih0_)),(1,(Ald call round K ih0_)),(0,Yo)] Yo ((Ald call round K ih0_)))))))))))))))
def Asr(call round:Ac)(K:Nat)(ih0_:CF):CF:=
 Aw4 Ih (bin TT .lss 3) g12 g11 (put p13 (Ajp g13 ((Atg call round K ih0_)) (Yo)))
def A11(call round:Ac)(K:Nat):FnT:=Axf 27 (A2g 142 g0 (put p2 (Xa g1 (put p7 (A5e g7 (put p8 (A48 6 g8 (put p9 (Xa g9 (put p10 (A4z g10 (put p11 (mv (Ab2 (.int .i64 (.ofNat 0))) p12 (Aib (Asr call round K) K))))))))))))))
theorem A2a(call round:Ac)(K:Nat):Aef TT call round K 149=A11 call round K:=by kernel_rfl
def Aeu(call round:Ac)(K l:Nat):CF:=
 Xa g2 (put p21 (Xa g3 (put p22 (mv g6 p23 (Adp call round g21 (fun tm=>[g22 tm,g23 tm]) (put p24 (A4x g24 (put p25 (Ajp g25 ((Bw l false .done (some .ret))) ((Bw l true .ready none)))))))))))
def Asn(call round:Ac)(K l:Nat):CF:=
 mv g20 p6 (U9 l (Aeu call round K l))
theorem Ayk(call round:Ac)(K l:Nat):Ov TT call round K 149 27 (some l) (fun id=>Bw l false .done (some (.exit id))) (Bw l false .done (some .ret)) (D1 TT 149 0).2.2.1 [] (U9 l (Ov TT call round K 149 27 (some l) (fun id=>Bw l false .done (some (.exit id))) (Bw l false .done (some .ret)) (D1 TT 149 0).2.2.2 [] (Bw l true .ready none)))=Asn call round K l:=by kernel_rfl
end
end Go.Ev

namespace Go.Ev
open Go.Proofs
set_option maxRecDepth 100000
noncomputable section
def A4d:List (Nat × FT):=[(49,F49),(149,A11)]
def Ahn:Nat->Option FT:=fun f=>Fq (pathOf f) (Ao4 A4d)
end
theorem A0h:Azz TP A4d:=⟨Aao.of Aqr A4y,Aao.of Aqr A2a,trivial⟩
theorem Aq0:∀ g F,Ahn g=some F->Aao TP g F:=fun g F h=>Ako A0h (by rw[<-Ai9];exact h)
end Go.Ev

namespace Go.Ev
open Go.Proofs
set_option maxRecDepth 100000
noncomputable section
def Bp:List EV:=[.int .u32 (.ofNat 0),.int .u32 (.ofNat 4067132163),.int .u32 (.ofNat 3778769143),.int .u32 (.ofNat 324072436),.int .u32 (.ofNat 3348797215),.int .u32 (.ofNat 904991772),.int .u32 (.ofNat 648144872),.int .u32 (.ofNat 3570033899),.int .u32 (.ofNat 2329499855),.int .u32 (.ofNat 2024987596),.int .u32 (.ofNat 1809983544),.int .u32 (.ofNat 2575936315),.int .u32 (.ofNat 1296289744),.int .u32 (.ofNat 3207089363),.int .u32 (.ofNat 2893594407),.int .u32 (.ofNat 1578318884),.int .u32 (.ofNat 274646895),.int .u32 (.ofNat 3795141740),.int .u32 (.ofNat 4049975192),.int .u32 (.ofNat 51262619),.int .u32 (.ofNat 3619967088),.int .u32 (.ofNat 632279923),.int .u32 (.ofNat 922689671),.int .u32 (.ofNat 3298075524),.int .u32 (.ofNat 2592579488),.int .u32 (.ofNat 1760304291),.int .u32 (.ofNat 2075979607),.int .u32 (.ofNat 2312596564),.int .u32 (.ofNat 1562183871),.int .u32 (.ofNat 2943781820),.int .u32 (.ofNat 3156637768),.int .u32 (.ofNat 1313733451),.int .u32 (.ofNat 549293790),.int .u32 (.ofNat 3537243613),.int .u32 (.ofNat 3246849577),.int .u32 (.ofNat 871202090),.int .u32 (.ofNat 3878099393),.int .u32 (.ofNat 357341890),.int .u32 (.ofNat 102525238),.int .u32 (.ofNat 4101499445),.int .u32 (.ofNat 2858735121),.int .u32 (.ofNat 1477399826),.int .u32 (.ofNat 1264559846),.int .u32 (.ofNat 3107202533),.int .u32 (.ofNat 1845379342),.int .u32 (.ofNat 2677391885),.int .u32 (.ofNat 2361733625),.int .u32 (.ofNat 2125378298),.int .u32 (.ofNat 820201905),.int .u32 (.ofNat 3263744690),.int .u32 (.ofNat 3520608582),.int .u32 (.ofNat 598981189),.int .u32 (.ofNat 4151959214),.int .u32 (.ofNat 85089709),.int .u32 (.ofNat 373468761),.int .u32 (.ofNat 3827903834),.int .u32 (.ofNat 3124367742),.int .u32 (.ofNat 1213305469),.int .u32 (.ofNat 1526817161),.int .u32 (.ofNat 2842354314),.int .u32 (.ofNat 2107672161),.int .u32 (.ofNat 2412447074),.int .u32 (.ofNat 2627466902),.int .u32 (.ofNat 1861252501),.int .u32 (.ofNat 1098587580),.int .u32 (.ofNat 3004210879),.int .u32 (.ofNat 2688576843),.int .u32 (.ofNat 1378610760),.int .u32 (.ofNat 2262928035),.int .u32 (.ofNat 1955203488),.int .u32 (.ofNat 1742404180),.int .u32 (.ofNat 2511436119),.int .u32 (.ofNat 3416409459),.int .u32 (.ofNat 969524848),.int .u32 (.ofNat 714683780),.int .u32 (.ofNat 3639785095),.int .u32 (.ofNat 205050476),.int .u32 (.ofNat 4266873199),.int .u32 (.ofNat 3976438427),.int .u32 (.ofNat 526918040),.int .u32 (.ofNat 1361435347),.int .u32 (.ofNat 2739821008),.int .u32 (.ofNat 2954799652),.int .u32 (.ofNat 1114974503),.int .u32 (.ofNat 2529119692),.int .u32 (.ofNat 1691668175),.int .u32 (.ofNat 2005155131),.int .u32 (.ofNat 2247081528),.int .u32 (.ofNat 3690758684),.int .u32 (.ofNat 697762079),.int .u32 (.ofNat 986182379),.int .u32 (.ofNat 3366744552),.int .u32 (.ofNat 476452099),.int .u32 (.ofNat 3993867776),.int .u32 (.ofNat 4250756596),.int .u32 (.ofNat 255256311),.int .u32 (.ofNat 1640403810),.int .u32 (.ofNat 2477592673),.int .u32 (.ofNat 2164122517),.int .u32 (.ofNat 1922457750),.int .u32 (.ofNat 2791048317),.int .u32 (.ofNat 1412925310),.int .u32 (.ofNat 1197962378),.int .u32 (.ofNat 3037525897),.int .u32 (.ofNat 3944729517),.int .u32 (.ofNat 427051182),.int .u32 (.ofNat 170179418),.int .u32 (.ofNat 4165941337),.int .u32 (.ofNat 746937522),.int .u32 (.ofNat 3740196785),.int .u32 (.ofNat 3451792453),.int .u32 (.ofNat 1070968646),.int .u32 (.ofNat 1905808397),.int .u32 (.ofNat 2213795598),.int .u32 (.ofNat 2426610938),.int .u32 (.ofNat 1657317369),.int .u32 (.ofNat 3053634322),.int .u32 (.ofNat 1147748369),.int .u32 (.ofNat 1463399397),.int .u32 (.ofNat 2773627110),.int .u32 (.ofNat 4215344322),.int .u32 (.ofNat 153784257),.int .u32 (.ofNat 444234805),.int .u32 (.ofNat 3893493558),.int .u32 (.ofNat 1021025245),.int .u32 (.ofNat 3467647198),.int .u32 (.ofNat 3722505002),.int .u32 (.ofNat 797665321),.int .u32 (.ofNat 2197175160),.int .u32 (.ofNat 1889384571),.int .u32 (.ofNat 1674398607),.int .u32 (.ofNat 2443626636),.int .u32 (.ofNat 1164749927),.int .u32 (.ofNat 3070701412),.int .u32 (.ofNat 2757221520),.int .u32 (.ofNat 1446797203),.int .u32 (.ofNat 137323447),.int .u32 (.ofNat 4198817972),.int .u32 (.ofNat 3910406976),.int .u32 (.ofNat 461344835),.int .u32 (.ofNat 3484808360),.int .u32 (.ofNat 1037989803),.int .u32 (.ofNat 781091935),.int .u32 (.ofNat 3705997148),.int .u32 (.ofNat 2460548119),.int .u32 (.ofNat 1623424788),.int .u32 (.ofNat 1939049696),.int .u32 (.ofNat 2180517859),.int .u32 (.ofNat 1429367560),.int .u32 (.ofNat 2807687179),.int .u32 (.ofNat 3020495871),.int .u32 (.ofNat 1180866812),.int .u32 (.ofNat 410100952),.int .u32 (.ofNat 3927582683),.int .u32 (.ofNat 4182430767),.int .u32 (.ofNat 186734380),.int .u32 (.ofNat 3756733383),.int .u32 (.ofNat 763408580),.int .u32 (.ofNat 1053836080),.int .u32 (.ofNat 3434856499),.int .u32 (.ofNat 2722870694),.int .u32 (.ofNat 1344288421),.int .u32 (.ofNat 1131464017),.int .u32 (.ofNat 2971354706),.int .u32 (.ofNat 1708204729),.int .u32 (.ofNat 2545590714),.int .u32 (.ofNat 2229949006),.int .u32 (.ofNat 1988219213),.int .u32 (.ofNat 680717673),.int .u32 (.ofNat 3673779818),.int .u32 (.ofNat 3383336350),.int .u32 (.ofNat 1002577565),.int .u32 (.ofNat 4010310262),.int .u32 (.ofNat 493091189),.int .u32 (.ofNat 238226049),.int .u32 (.ofNat 4233660802),.int .u32 (.ofNat 2987750089),.int .u32 (.ofNat 1082061258),.int .u32 (.ofNat 1395524158),.int .u32 (.ofNat 2705686845),.int .u32 (.ofNat 1972364758),.int .u32 (.ofNat 2279892693),.int .u32 (.ofNat 2494862625),.int .u32 (.ofNat 1725896226),.int .u32 (.ofNat 952904198),.int .u32 (.ofNat 3399985413),.int .u32 (.ofNat 3656866545),.int .u32 (.ofNat 731699698),.int .u32 (.ofNat 4283874585),.int .u32 (.ofNat 222117402),.int .u32 (.ofNat 510512622),.int .u32 (.ofNat 3959836397),.int .u32 (.ofNat 3280807620),.int .u32 (.ofNat 837199303),.int .u32 (.ofNat 582374963),.int .u32 (.ofNat 3504198960),.int .u32 (.ofNat 68661723),.int .u32 (.ofNat 4135334616),.int .u32 (.ofNat 3844915500),.int .u32 (.ofNat 390545967),.int .u32 (.ofNat 1230274059),.int .u32 (.ofNat 3141532936),.int .u32 (.ofNat 2825850620),.int .u32 (.ofNat 1510247935),.int .u32 (.ofNat 2395924756),.int .u32 (.ofNat 2091215383),.int .u32 (.ofNat 1878366691),.int .u32 (.ofNat 2644384480),.int .u32 (.ofNat 3553878443),.int .u32 (.ofNat 565732008),.int .u32 (.ofNat 854102364),.int .u32 (.ofNat 3229815391),.int .u32 (.ofNat 340358836),.int .u32 (.ofNat 3861050807),.int .u32 (.ofNat 4117890627),.int .u32 (.ofNat 119113024),.int .u32 (.ofNat 1493875044),.int .u32 (.ofNat 2875275879),.int .u32 (.ofNat 3090270611),.int .u32 (.ofNat 1247431312),.int .u32 (.ofNat 2660249211),.int .u32 (.ofNat 1828433272),.int .u32 (.ofNat 2141937292),.int .u32 (.ofNat 2378227087),.int .u32 (.ofNat 3811616794),.int .u32 (.ofNat 291187481),.int .u32 (.ofNat 34330861),.int .u32 (.ofNat 4032846830),.int .u32 (.ofNat 615137029),.int .u32 (.ofNat 3603020806),.int .u32 (.ofNat 3314634738),.int .u32 (.ofNat 939183345),.int .u32 (.ofNat 1776939221),.int .u32 (.ofNat 2609017814),.int .u32 (.ofNat 2295496738),.int .u32 (.ofNat 2058945313),.int .u32 (.ofNat 2926798794),.int .u32 (.ofNat 1545135305),.int .u32 (.ofNat 1330124605),.int .u32 (.ofNat 3173225534),.int .u32 (.ofNat 4084100981),.int .u32 (.ofNat 17165430),.int .u32 (.ofNat 307568514),.int .u32 (.ofNat 3762199681),.int .u32 (.ofNat 888469610),.int .u32 (.ofNat 3332340585),.int .u32 (.ofNat 3587147933),.int .u32 (.ofNat 665062302),.int .u32 (.ofNat 2042050490),.int .u32 (.ofNat 2346497209),.int .u32 (.ofNat 2559330125),.int .u32 (.ofNat 1793573966),.int .u32 (.ofNat 3190661285),.int .u32 (.ofNat 1279665062),.int .u32 (.ofNat 1595330642),.int .u32 (.ofNat 2910671697)]
def Aah:EV:=.agg Bp
def Ao1:FT:=fun _ _ _ args h=>@List.rec EV (fun _=>R) (some (Aah,h)) (fun _ _ _=>none) args
def Au9(_:Nat)(h:Aa):R:=some (Aah,h)
end
structure Au(disp:Nat->Option FT):Prop where
 plain:∀ g,A0w g=true->disp g=Ahn g
 crc:disp 26=some Ao1
theorem Ap6 {disp:Nat->Option FT}(H:Au disp){K d:Nat}(hd:1<=d)(h:Aa):Af TT disp K d false 26 [] h=Au9 K h:=by
 obtain⟨d,rfl⟩:∃ e,d=e+1:=⟨d-1,by omega⟩
 rw[Abz H.crc];rfl
noncomputable def A6w(g:Nat):Bool:=Ao (A0w g) (match Ahn g with|none=>true|some _=>false) false
theorem Au.bare {disp:Nat->Option FT}(H:Au disp){g:Nat}(e:A6w g=true):disp g=none:=by
 obtain⟨h1,h2⟩:=Ql e
 rw[H.plain g h1]
 cases hx:Ahn g with
 | none=>rfl
 | some _=>rw[hx]at h2;cases h2
theorem Vb {disp:Nat->Option FT}{g d K:Nat}{args:List EV}{h:Aa}{X:R}{C:Ac}{B:CD}(hn:disp g=none)(hk:A4j TT g (Je args)=true)(e:Af TT disp K d false=C)
 (hx:Ma TT C (Af TT disp K d false) (Af TT disp K d true) K (nOf TT g) (Gy TT g) .no (Ag2 TT g) [] (Gy TT g)=B) (hy:B (Akp args 0 u0) h=X):Af TT disp K (d+1) false g args h=X:=by
 have e0:Af TT disp K (d+1) false g args h=Aef TT (Af TT disp K d false) (Af TT disp K d true) K g args h:=by
  have e:Af TT disp K (d+1) false g args h = @Option.rec FT (fun _=>FnT) (Aef TT (Af TT disp K d false) (Af TT disp K d true) K g) (fun F=>F (Af TT disp K d false) (Af TT disp K d true) K) (disp g) args h:=rfl
  rw[e,hn]
 rw[e0,Axz hk]
 exact(congrArg (fun C=>Ma TT C (Af TT disp K d false) (Af TT disp K d true) K (nOf TT g) (Gy TT g) .no (Ag2 TT g) [] (Gy TT g) (Akp args 0 u0) h) e).trans ((congrFun (congrFun hx _) h).trans hy)
theorem C9 {disp:Nat->Option FT}{g m d K:Nat}{args:List EV}{h:Aa}{X:R}{C:Nat->Ac}{B:Nat->Ac->Ac->CD}(hn:disp g=none)(hd:m+1<=d)(hk:A4j TT g (Je args)=true)
 (e:∀ d,m<=d->Af TT disp K d false=C d) (hx:∀ d c r,Ma TT (C d) c r K (nOf TT g) (Gy TT g) .no (Ag2 TT g) [] (Gy TT g)=B d c r) (hy:∀ d c r,B d c r (Akp args 0 u0) h=X):Af TT disp K d false g args h=X:=by
 obtain⟨d,rfl⟩:∃ e,d=e+1:=⟨d-1,by omega⟩
 exact Vb hn hk (e d (Nat.le_of_succ_le_succ hd)) (hx _ _ _) (hy _ _ _)
end Go.Ev
