import Derived.Test.YtpkcfamminlmaaaGreatTab
import Derived.Test.YtpkcfamminlmaaaGreatEvSix
set_option linter.unusedVariables false
set_option linter.unusedSimpArgs false
set_option linter.unusedSectionVars false
namespace Go.Ev
open Go.Proofs
set_option maxRecDepth 100000
noncomputable section
def o0:Ai->Option EV:=Tr.top
def g0:EF:=gO o0
def p0:PF:=Tr.Hn
theorem Bb6(tm:Ai):g0 tm=tmp tm 0:=H0 (show o0=Ge (pathOf 0) by kernel_rfl) tm
theorem Bcc(v:Option EV)(tm:Ai):p0 v tm=tm.put 0 v:=H2 (show p0=Nt (pathOf 0) by kernel_rfl) v tm
theorem Bb3(w:Bool)(tm:Ai):C8 o0 w tm=Ay (tmp tm 0) w:=Ch (show o0=Ge (pathOf 0) by kernel_rfl) w tm
def o1:Ai->Option EV:=Tr.X3 (Tr.top)
def g1:EF:=gO o1
def p1:PF:=Tr.J6 (Tr.Hn)
theorem Bcj(tm:Ai):g1 tm=tmp tm 1:=H0 (show o1=Ge (pathOf 1) by kernel_rfl) tm
theorem Bb2(v:Option EV)(tm:Ai):p1 v tm=tm.put 1 v:=H2 (show p1=Nt (pathOf 1) by kernel_rfl) v tm
theorem Bct(w:Bool)(tm:Ai):C8 o1 w tm=Ay (tmp tm 1) w:=Ch (show o1=Ge (pathOf 1) by kernel_rfl) w tm
def o2:Ai->Option EV:=Tr.goR (Tr.top)
def g2:EF:=gO o2
def p2:PF:=Tr.Ms (Tr.Hn)
theorem Bby(tm:Ai):g2 tm=tmp tm 2:=H0 (show o2=Ge (pathOf 2) by kernel_rfl) tm
theorem Bco(v:Option EV)(tm:Ai):p2 v tm=tm.put 2 v:=H2 (show p2=Nt (pathOf 2) by kernel_rfl) v tm
theorem Bbz(w:Bool)(tm:Ai):C8 o2 w tm=Ay (tmp tm 2) w:=Ch (show o2=Ge (pathOf 2) by kernel_rfl) w tm
def o3:Ai->Option EV:=Tr.X3 (Tr.X3 (Tr.top))
def g3:EF:=gO o3
def p3:PF:=Tr.J6 (Tr.J6 (Tr.Hn))
theorem Bcp(tm:Ai):g3 tm=tmp tm 3:=H0 (show o3=Ge (pathOf 3) by kernel_rfl) tm
theorem Bcb(v:Option EV)(tm:Ai):p3 v tm=tm.put 3 v:=H2 (show p3=Nt (pathOf 3) by kernel_rfl) v tm
theorem Bb0(w:Bool)(tm:Ai):C8 o3 w tm=Ay (tmp tm 3) w:=Ch (show o3=Ge (pathOf 3) by kernel_rfl) w tm
def o4:Ai->Option EV:=Tr.goR (Tr.X3 (Tr.top))
def g4:EF:=gO o4
def p4:PF:=Tr.Ms (Tr.J6 (Tr.Hn))
theorem Bce(tm:Ai):g4 tm=tmp tm 4:=H0 (show o4=Ge (pathOf 4) by kernel_rfl) tm
theorem Bck(v:Option EV)(tm:Ai):p4 v tm=tm.put 4 v:=H2 (show p4=Nt (pathOf 4) by kernel_rfl) v tm
theorem Bca(w:Bool)(tm:Ai):C8 o4 w tm=Ay (tmp tm 4) w:=Ch (show o4=Ge (pathOf 4) by kernel_rfl) w tm
def o5:Ai->Option EV:=Tr.X3 (Tr.goR (Tr.top))
def g5:EF:=gO o5
def p5:PF:=Tr.J6 (Tr.Ms (Tr.Hn))
theorem Bci(tm:Ai):g5 tm=tmp tm 5:=H0 (show o5=Ge (pathOf 5) by kernel_rfl) tm
theorem Bcv(v:Option EV)(tm:Ai):p5 v tm=tm.put 5 v:=H2 (show p5=Nt (pathOf 5) by kernel_rfl) v tm
theorem Bcn(w:Bool)(tm:Ai):C8 o5 w tm=Ay (tmp tm 5) w:=Ch (show o5=Ge (pathOf 5) by kernel_rfl) w tm
def o6:Ai->Option EV:=Tr.goR (Tr.goR (Tr.top))
def g6:EF:=gO o6
def p6:PF:=Tr.Ms (Tr.Ms (Tr.Hn))
theorem Bcl(tm:Ai):g6 tm=tmp tm 6:=H0 (show o6=Ge (pathOf 6) by kernel_rfl) tm
theorem Bbx(v:Option EV)(tm:Ai):p6 v tm=tm.put 6 v:=H2 (show p6=Nt (pathOf 6) by kernel_rfl) v tm
theorem Bc0(w:Bool)(tm:Ai):C8 o6 w tm=Ay (tmp tm 6) w:=Ch (show o6=Ge (pathOf 6) by kernel_rfl) w tm
def o7:Ai->Option EV:=Tr.X3 (Tr.X3 (Tr.X3 (Tr.top)))
def g7:EF:=gO o7
def p7:PF:=Tr.J6 (Tr.J6 (Tr.J6 (Tr.Hn)))
theorem Bb4(tm:Ai):g7 tm=tmp tm 7:=H0 (show o7=Ge (pathOf 7) by kernel_rfl) tm
theorem Bb5(v:Option EV)(tm:Ai):p7 v tm=tm.put 7 v:=H2 (show p7=Nt (pathOf 7) by kernel_rfl) v tm
theorem Bcd(w:Bool)(tm:Ai):C8 o7 w tm=Ay (tmp tm 7) w:=Ch (show o7=Ge (pathOf 7) by kernel_rfl) w tm
def o8:Ai->Option EV:=Tr.goR (Tr.X3 (Tr.X3 (Tr.top)))
def g8:EF:=gO o8
def p8:PF:=Tr.Ms (Tr.J6 (Tr.J6 (Tr.Hn)))
theorem Bcu(tm:Ai):g8 tm=tmp tm 8:=H0 (show o8=Ge (pathOf 8) by kernel_rfl) tm
theorem Bcf(v:Option EV)(tm:Ai):p8 v tm=tm.put 8 v:=H2 (show p8=Nt (pathOf 8) by kernel_rfl) v tm
theorem Bb9(w:Bool)(tm:Ai):C8 o8 w tm=Ay (tmp tm 8) w:=Ch (show o8=Ge (pathOf 8) by kernel_rfl) w tm
def o9:Ai->Option EV:=Tr.X3 (Tr.goR (Tr.X3 (Tr.top)))
def g9:EF:=gO o9
def p9:PF:=Tr.J6 (Tr.Ms (Tr.J6 (Tr.Hn)))
theorem Bcr(tm:Ai):g9 tm=tmp tm 9:=H0 (show o9=Ge (pathOf 9) by kernel_rfl) tm
theorem Bcq(v:Option EV)(tm:Ai):p9 v tm=tm.put 9 v:=H2 (show p9=Nt (pathOf 9) by kernel_rfl) v tm
theorem Bcy(w:Bool)(tm:Ai):C8 o9 w tm=Ay (tmp tm 9) w:=Ch (show o9=Ge (pathOf 9) by kernel_rfl) w tm
def o10:Ai->Option EV:=Tr.goR (Tr.goR (Tr.X3 (Tr.top)))
def g10:EF:=gO o10
def p10:PF:=Tr.Ms (Tr.Ms (Tr.J6 (Tr.Hn)))
theorem Bbq(tm:Ai):g10 tm=tmp tm 10:=H0 (show o10=Ge (pathOf 10) by kernel_rfl) tm
theorem Baf(v:Option EV)(tm:Ai):p10 v tm=tm.put 10 v:=H2 (show p10=Nt (pathOf 10) by kernel_rfl) v tm
theorem Ba6(w:Bool)(tm:Ai):C8 o10 w tm=Ay (tmp tm 10) w:=Ch (show o10=Ge (pathOf 10) by kernel_rfl) w tm
def o11:Ai->Option EV:=Tr.X3 (Tr.X3 (Tr.goR (Tr.top)))
def g11:EF:=gO o11
def p11:PF:=Tr.J6 (Tr.J6 (Tr.Ms (Tr.Hn)))
theorem A9t(tm:Ai):g11 tm=tmp tm 11:=H0 (show o11=Ge (pathOf 11) by kernel_rfl) tm
theorem Bbe(v:Option EV)(tm:Ai):p11 v tm=tm.put 11 v:=H2 (show p11=Nt (pathOf 11) by kernel_rfl) v tm
theorem Ba2(w:Bool)(tm:Ai):C8 o11 w tm=Ay (tmp tm 11) w:=Ch (show o11=Ge (pathOf 11) by kernel_rfl) w tm
def o12:Ai->Option EV:=Tr.goR (Tr.X3 (Tr.goR (Tr.top)))
def g12:EF:=gO o12
def p12:PF:=Tr.Ms (Tr.J6 (Tr.Ms (Tr.Hn)))
theorem Bad(tm:Ai):g12 tm=tmp tm 12:=H0 (show o12=Ge (pathOf 12) by kernel_rfl) tm
theorem Bbs(v:Option EV)(tm:Ai):p12 v tm=tm.put 12 v:=H2 (show p12=Nt (pathOf 12) by kernel_rfl) v tm
theorem A90(w:Bool)(tm:Ai):C8 o12 w tm=Ay (tmp tm 12) w:=Ch (show o12=Ge (pathOf 12) by kernel_rfl) w tm
def o13:Ai->Option EV:=Tr.X3 (Tr.goR (Tr.goR (Tr.top)))
def g13:EF:=gO o13
def p13:PF:=Tr.J6 (Tr.Ms (Tr.Ms (Tr.Hn)))
theorem Ba8(tm:Ai):g13 tm=tmp tm 13:=H0 (show o13=Ge (pathOf 13) by kernel_rfl) tm
theorem A9y(v:Option EV)(tm:Ai):p13 v tm=tm.put 13 v:=H2 (show p13=Nt (pathOf 13) by kernel_rfl) v tm
theorem Bbp(w:Bool)(tm:Ai):C8 o13 w tm=Ay (tmp tm 13) w:=Ch (show o13=Ge (pathOf 13) by kernel_rfl) w tm
def o14:Ai->Option EV:=Tr.goR (Tr.goR (Tr.goR (Tr.top)))
def g14:EF:=gO o14
def p14:PF:=Tr.Ms (Tr.Ms (Tr.Ms (Tr.Hn)))
theorem Bbd(tm:Ai):g14 tm=tmp tm 14:=H0 (show o14=Ge (pathOf 14) by kernel_rfl) tm
theorem Ba3(v:Option EV)(tm:Ai):p14 v tm=tm.put 14 v:=H2 (show p14=Nt (pathOf 14) by kernel_rfl) v tm
theorem Bbm(w:Bool)(tm:Ai):C8 o14 w tm=Ay (tmp tm 14) w:=Ch (show o14=Ge (pathOf 14) by kernel_rfl) w tm
def o15:Ai->Option EV:=Tr.X3 (Tr.X3 (Tr.X3 (Tr.X3 (Tr.top))))
def g15:EF:=gO o15
def p15:PF:=Tr.J6 (Tr.J6 (Tr.J6 (Tr.J6 (Tr.Hn))))
theorem A9z(tm:Ai):g15 tm=tmp tm 15:=H0 (show o15=Ge (pathOf 15) by kernel_rfl) tm
theorem Bax(v:Option EV)(tm:Ai):p15 v tm=tm.put 15 v:=H2 (show p15=Nt (pathOf 15) by kernel_rfl) v tm
theorem A91(w:Bool)(tm:Ai):C8 o15 w tm=Ay (tmp tm 15) w:=Ch (show o15=Ge (pathOf 15) by kernel_rfl) w tm
def o16:Ai->Option EV:=Tr.goR (Tr.X3 (Tr.X3 (Tr.X3 (Tr.top))))
def g16:EF:=gO o16
def p16:PF:=Tr.Ms (Tr.J6 (Tr.J6 (Tr.J6 (Tr.Hn))))
theorem Ban(tm:Ai):g16 tm=tmp tm 16:=H0 (show o16=Ge (pathOf 16) by kernel_rfl) tm
theorem Baz(v:Option EV)(tm:Ai):p16 v tm=tm.put 16 v:=H2 (show p16=Nt (pathOf 16) by kernel_rfl) v tm
theorem Bab(w:Bool)(tm:Ai):C8 o16 w tm=Ay (tmp tm 16) w:=Ch (show o16=Ge (pathOf 16) by kernel_rfl) w tm
def o17:Ai->Option EV:=Tr.X3 (Tr.goR (Tr.X3 (Tr.X3 (Tr.top))))
def g17:EF:=gO o17
def p17:PF:=Tr.J6 (Tr.Ms (Tr.J6 (Tr.J6 (Tr.Hn))))
theorem Bbb(tm:Ai):g17 tm=tmp tm 17:=H0 (show o17=Ge (pathOf 17) by kernel_rfl) tm
theorem Bam(v:Option EV)(tm:Ai):p17 v tm=tm.put 17 v:=H2 (show p17=Nt (pathOf 17) by kernel_rfl) v tm
theorem Bbg(w:Bool)(tm:Ai):C8 o17 w tm=Ay (tmp tm 17) w:=Ch (show o17=Ge (pathOf 17) by kernel_rfl) w tm
def o18:Ai->Option EV:=Tr.goR (Tr.goR (Tr.X3 (Tr.X3 (Tr.top))))
def g18:EF:=gO o18
def p18:PF:=Tr.Ms (Tr.Ms (Tr.J6 (Tr.J6 (Tr.Hn))))
theorem Bbj(tm:Ai):g18 tm=tmp tm 18:=H0 (show o18=Ge (pathOf 18) by kernel_rfl) tm
theorem A97(v:Option EV)(tm:Ai):p18 v tm=tm.put 18 v:=H2 (show p18=Nt (pathOf 18) by kernel_rfl) v tm
theorem Bbu(w:Bool)(tm:Ai):C8 o18 w tm=Ay (tmp tm 18) w:=Ch (show o18=Ge (pathOf 18) by kernel_rfl) w tm
def o19:Ai->Option EV:=Tr.X3 (Tr.X3 (Tr.goR (Tr.X3 (Tr.top))))
def g19:EF:=gO o19
def p19:PF:=Tr.J6 (Tr.J6 (Tr.Ms (Tr.J6 (Tr.Hn))))
theorem Bbh(tm:Ai):g19 tm=tmp tm 19:=H0 (show o19=Ge (pathOf 19) by kernel_rfl) tm
theorem A9v(v:Option EV)(tm:Ai):p19 v tm=tm.put 19 v:=H2 (show p19=Nt (pathOf 19) by kernel_rfl) v tm
theorem Bbr(w:Bool)(tm:Ai):C8 o19 w tm=Ay (tmp tm 19) w:=Ch (show o19=Ge (pathOf 19) by kernel_rfl) w tm
def o20:Ai->Option EV:=Tr.goR (Tr.X3 (Tr.goR (Tr.X3 (Tr.top))))
def g20:EF:=gO o20
def p20:PF:=Tr.Ms (Tr.J6 (Tr.Ms (Tr.J6 (Tr.Hn))))
theorem Baq(tm:Ai):g20 tm=tmp tm 20:=H0 (show o20=Ge (pathOf 20) by kernel_rfl) tm
theorem A98(v:Option EV)(tm:Ai):p20 v tm=tm.put 20 v:=H2 (show p20=Nt (pathOf 20) by kernel_rfl) v tm
theorem Ba9(w:Bool)(tm:Ai):C8 o20 w tm=Ay (tmp tm 20) w:=Ch (show o20=Ge (pathOf 20) by kernel_rfl) w tm
def o21:Ai->Option EV:=Tr.X3 (Tr.goR (Tr.goR (Tr.X3 (Tr.top))))
def g21:EF:=gO o21
def p21:PF:=Tr.J6 (Tr.Ms (Tr.Ms (Tr.J6 (Tr.Hn))))
theorem A92(tm:Ai):g21 tm=tmp tm 21:=H0 (show o21=Ge (pathOf 21) by kernel_rfl) tm
theorem A95(v:Option EV)(tm:Ai):p21 v tm=tm.put 21 v:=H2 (show p21=Nt (pathOf 21) by kernel_rfl) v tm
theorem A9u(w:Bool)(tm:Ai):C8 o21 w tm=Ay (tmp tm 21) w:=Ch (show o21=Ge (pathOf 21) by kernel_rfl) w tm
def o22:Ai->Option EV:=Tr.goR (Tr.goR (Tr.goR (Tr.X3 (Tr.top))))
def g22:EF:=gO o22
def p22:PF:=Tr.Ms (Tr.Ms (Tr.Ms (Tr.J6 (Tr.Hn))))
theorem A96(tm:Ai):g22 tm=tmp tm 22:=H0 (show o22=Ge (pathOf 22) by kernel_rfl) tm
theorem A9w(v:Option EV)(tm:Ai):p22 v tm=tm.put 22 v:=H2 (show p22=Nt (pathOf 22) by kernel_rfl) v tm
theorem Bay(w:Bool)(tm:Ai):C8 o22 w tm=Ay (tmp tm 22) w:=Ch (show o22=Ge (pathOf 22) by kernel_rfl) w tm
def o23:Ai->Option EV:=Tr.X3 (Tr.X3 (Tr.X3 (Tr.goR (Tr.top))))
def g23:EF:=gO o23
def p23:PF:=Tr.J6 (Tr.J6 (Tr.J6 (Tr.Ms (Tr.Hn))))
theorem Ba0(tm:Ai):g23 tm=tmp tm 23:=H0 (show o23=Ge (pathOf 23) by kernel_rfl) tm
theorem Bao(v:Option EV)(tm:Ai):p23 v tm=tm.put 23 v:=H2 (show p23=Nt (pathOf 23) by kernel_rfl) v tm
theorem Bag(w:Bool)(tm:Ai):C8 o23 w tm=Ay (tmp tm 23) w:=Ch (show o23=Ge (pathOf 23) by kernel_rfl) w tm
def o24:Ai->Option EV:=Tr.goR (Tr.X3 (Tr.X3 (Tr.goR (Tr.top))))
def g24:EF:=gO o24
def p24:PF:=Tr.Ms (Tr.J6 (Tr.J6 (Tr.Ms (Tr.Hn))))
theorem Ba7(tm:Ai):g24 tm=tmp tm 24:=H0 (show o24=Ge (pathOf 24) by kernel_rfl) tm
theorem A94(v:Option EV)(tm:Ai):p24 v tm=tm.put 24 v:=H2 (show p24=Nt (pathOf 24) by kernel_rfl) v tm
theorem Bau(w:Bool)(tm:Ai):C8 o24 w tm=Ay (tmp tm 24) w:=Ch (show o24=Ge (pathOf 24) by kernel_rfl) w tm
def o25:Ai->Option EV:=Tr.X3 (Tr.goR (Tr.X3 (Tr.goR (Tr.top))))
def g25:EF:=gO o25
def p25:PF:=Tr.J6 (Tr.Ms (Tr.J6 (Tr.Ms (Tr.Hn))))
theorem Ba4(tm:Ai):g25 tm=tmp tm 25:=H0 (show o25=Ge (pathOf 25) by kernel_rfl) tm
theorem Bav(v:Option EV)(tm:Ai):p25 v tm=tm.put 25 v:=H2 (show p25=Nt (pathOf 25) by kernel_rfl) v tm
theorem Bai(w:Bool)(tm:Ai):C8 o25 w tm=Ay (tmp tm 25) w:=Ch (show o25=Ge (pathOf 25) by kernel_rfl) w tm
def o26:Ai->Option EV:=Tr.goR (Tr.goR (Tr.X3 (Tr.goR (Tr.top))))
def g26:EF:=gO o26
def p26:PF:=Tr.Ms (Tr.Ms (Tr.J6 (Tr.Ms (Tr.Hn))))
theorem Bah(tm:Ai):g26 tm=tmp tm 26:=H0 (show o26=Ge (pathOf 26) by kernel_rfl) tm
theorem Bac(v:Option EV)(tm:Ai):p26 v tm=tm.put 26 v:=H2 (show p26=Nt (pathOf 26) by kernel_rfl) v tm
theorem Bas(w:Bool)(tm:Ai):C8 o26 w tm=Ay (tmp tm 26) w:=Ch (show o26=Ge (pathOf 26) by kernel_rfl) w tm
theorem tt0:(∀ tm,g0 tm=tmp tm 0)/\(∀ v tm,p0 v tm=tm.put 0 v)/\(∀ w tm,C8 o0 w tm=Ay (tmp tm 0) w)/\(∀ tm,g1 tm=tmp tm 1)/\(∀ v tm,p1 v tm=tm.put 1 v)/\(∀ w tm,C8 o1 w tm=Ay (tmp tm 1) w)/\(∀ tm,g2 tm=tmp tm 2)/\(∀ v tm,p2 v tm=tm.put 2 v)/\(∀ w tm,C8 o2 w tm=Ay (tmp tm 2) w)/\(∀ tm,g3 tm=tmp tm 3)/\(∀ v tm,p3 v tm=tm.put 3 v)/\(∀ w tm,C8 o3 w tm=Ay (tmp tm 3) w)/\(∀ tm,g4 tm=tmp tm 4)/\(∀ v tm,p4 v tm=tm.put 4 v)/\(∀ w tm,C8 o4 w tm=Ay (tmp tm 4) w)/\(∀ tm,g5 tm=tmp tm 5)/\(∀ v tm,p5 v tm=tm.put 5 v)/\(∀ w tm,C8 o5 w tm=Ay (tmp tm 5) w)/\(∀ tm,g6 tm=tmp tm 6)/\(∀ v tm,p6 v tm=tm.put 6 v)/\(∀ w tm,C8 o6 w tm=Ay (tmp tm 6) w)/\(∀ tm,g7 tm=tmp tm 7)/\(∀ v tm,p7 v tm=tm.put 7 v)/\(∀ w tm,C8 o7 w tm=Ay (tmp tm 7) w)/\(∀ tm,g8 tm=tmp tm 8)/\(∀ v tm,p8 v tm=tm.put 8 v)/\(∀ w tm,C8 o8 w tm=Ay (tmp tm 8) w)/\(∀ tm,g9 tm=tmp tm 9)/\(∀ v tm,p9 v tm=tm.put 9 v)/\(∀ w tm,C8 o9 w tm=Ay (tmp tm 9) w)/\(∀ tm,g10 tm=tmp tm 10)/\(∀ v tm,p10 v tm=tm.put 10 v)/\(∀ w tm,C8 o10 w tm=Ay (tmp tm 10) w)/\(∀ tm,g11 tm=tmp tm 11)/\(∀ v tm,p11 v tm=tm.put 11 v)/\(∀ w tm,C8 o11 w tm=Ay (tmp tm 11) w)/\(∀ tm,g12 tm=tmp tm 12)/\(∀ v tm,p12 v tm=tm.put 12 v)/\(∀ w tm,C8 o12 w tm=Ay (tmp tm 12) w)/\(∀ tm,g13 tm=tmp tm 13)/\(∀ v tm,p13 v tm=tm.put 13 v)/\(∀ w tm,C8 o13 w tm=Ay (tmp tm 13) w)/\(∀ tm,g14 tm=tmp tm 14)/\(∀ v tm,p14 v tm=tm.put 14 v)/\(∀ w tm,C8 o14 w tm=Ay (tmp tm 14) w)/\(∀ tm,g15 tm=tmp tm 15)/\(∀ v tm,p15 v tm=tm.put 15 v)/\(∀ w tm,C8 o15 w tm=Ay (tmp tm 15) w)/\(∀ tm,g16 tm=tmp tm 16)/\(∀ v tm,p16 v tm=tm.put 16 v)/\(∀ w tm,C8 o16 w tm=Ay (tmp tm 16) w)/\(∀ tm,g17 tm=tmp tm 17)/\(∀ v tm,p17 v tm=tm.put 17 v)/\(∀ w tm,C8 o17 w tm=Ay (tmp tm 17) w)/\(∀ tm,g18 tm=tmp tm 18)/\(∀ v tm,p18 v tm=tm.put 18 v)/\(∀ w tm,C8 o18 w tm=Ay (tmp tm 18) w)/\(∀ tm,g19 tm=tmp tm 19)/\(∀ v tm,p19 v tm=tm.put 19 v)/\(∀ w tm,C8 o19 w tm=Ay (tmp tm 19) w)/\(∀ tm,g20 tm=tmp tm 20)/\(∀ v tm,p20 v tm=tm.put 20 v)/\(∀ w tm,C8 o20 w tm=Ay (tmp tm 20) w)/\(∀ tm,g21 tm=tmp tm 21)/\(∀ v tm,p21 v tm=tm.put 21 v)/\(∀ w tm,C8 o21 w tm=Ay (tmp tm 21) w)/\(∀ tm,g22 tm=tmp tm 22)/\(∀ v tm,p22 v tm=tm.put 22 v)/\(∀ w tm,C8 o22 w tm=Ay (tmp tm 22) w)/\(∀ tm,g23 tm=tmp tm 23)/\(∀ v tm,p23 v tm=tm.put 23 v)/\(∀ w tm,C8 o23 w tm=Ay (tmp tm 23) w)/\(∀ tm,g24 tm=tmp tm 24)/\(∀ v tm,p24 v tm=tm.put 24 v)/\(∀ w tm,C8 o24 w tm=Ay (tmp tm 24) w)/\(∀ tm,g25 tm=tmp tm 25)/\(∀ v tm,p25 v tm=tm.put 25 v)/\(∀ w tm,C8 o25 w tm=Ay (tmp tm 25) w)/\(∀ tm,g26 tm=tmp tm 26)/\(∀ v tm,p26 v tm=tm.put 26 v)/\(∀ w tm,C8 o26 w tm=Ay (tmp tm 26) w):=⟨Bb6,Bcc,Bb3,Bcj,Bb2,Bct,Bby,Bco,Bbz,Bcp,Bcb,Bb0,Bce,Bck,Bca,Bci,Bcv,Bcn,Bcl,Bbx,Bc0,Bb4,Bb5,Bcd,Bcu,Bcf,Bb9,Bcr,Bcq,Bcy,Bbq,Baf,Ba6,A9t,Bbe,Ba2,Bad,Bbs,A90,Ba8,A9y,Bbp,Bbd,Ba3,Bbm,A9z,Bax,A91,Ban,Baz,Bab,Bbb,Bam,Bbg,Bbj,A97,Bbu,Bbh,A9v,Bbr,Baq,A98,Ba9,A92,A95,A9u,A96,A9w,Bay,Ba0,Bao,Bag,Ba7,A94,Bau,Ba4,Bav,Bai,Bah,Bac,Bas⟩
end
end Go.Ev

namespace Go.Ev
open Go.Proofs
set_option maxRecDepth 100000
noncomputable section
def Ath:CF:=(Al8 TT [.cell 4 4])
def Azm(call round:Ad)(K:Nat):CF:=
 Aoy 1 g4 (Afk (.bool false)) (Azd (Ath))
def F49(call round:Ad)(K:Nat):FnT:=A1n 14 (A67 3 g1 (put p3 (Asm [(.bool false)] 4 (put p4 (mv g0 p7 (A0g call 105 (fun tm=>[g7 tm]) (put p8 (Ak1 TT call 49 14 none 0 (fun _=>Dc) [(0,(Azm call round K))] Ath ((Azm call round K))))))))))
theorem A80(call round:Ad)(K:Nat):Ag4 TT call round K 49=F49 call round K:=by kernel_rfl
def Aj8(call round:Ad)(K l:Nat):CF:=
 mv g6 p11 (Y8 g3 (put p12 (A04 Fj (bin TT .eql 3) g11 g12 (put p13 (Ane g13 (Aoy 1 g4 (Afk (.bool true)) (Azd ((B3 l false .done (some .ret))))) ((B3 l true .ready none)))))))
def A5v(call round:Ad)(K l:Nat):CF:=
 mv g10 p6 (Xb l (Aj8 call round K l))
theorem A6h(call round:Ad)(K l:Nat):Py TT call round K 49 14 (some l) (fun id=>B3 l false .done (some (.exit id))) (B3 l false .done (some .ret)) (Eo TT 49 0).2.2.1 [] (Xb l (Py TT call round K 49 14 (some l) (fun id=>B3 l false .done (some (.exit id))) (B3 l false .done (some .ret)) (Eo TT 49 0).2.2.2 [] (B3 l true .ready none)))=A5v call round K l:=by kernel_rfl
def Ab8:CF:=A9x
def Anw(call round:Ad)(K:Nat)(ih0_:CF):CF:=
 A04 Hw (bin TT .add 3) g12 (Afk (.int .i64 (.ofNat 1))) (put p26 (mv g26 p12 (ih0_)))
def Aww(call round:Ad)(K:Nat)(ih0_:CF):CF:=
 mv g12 p14 (Apl 1 g10 g12 (put p15 (Y8 g15 (put p16 (Asm [(.int .i64 (.ofNat 0))] 3 (put p3 (Aoy 1 g3 g14 (Azd (mv g16 p4 (mv g4 p17 (A0g call 150 (fun tm=>[g17 tm]) (put p18 (Ak1 TT call 149 27 none 0 (fun _=>Dc) [(2,(Anw call round K ih0_)),(1,(Anw call round K ih0_)),(0,Ab8)] Ab8 ((Anw call round K ih0_)))))))))))))))
def Axv(call round:Ad)(K:Nat)(ih0_:CF):CF:=
 A04 Hl (bin TT .lss 3) g12 g11 (put p13 (Ane g13 ((Aww call round K ih0_)) (Ab8)))
def A7s(call round:Ad)(K:Nat):FnT:=A1n 27 (A67 142 g0 (put p2 (Y8 g1 (put p7 (A84 g7 (put p8 (A8t 6 g8 (put p9 (Y8 g9 (put p10 (A88 g10 (put p11 (mv (Afk (.int .i64 (.ofNat 0))) p12 (Ala (Axv call round K) K))))))))))))))
theorem A7a(call round:Ad)(K:Nat):Ag4 TT call round K 149=A7s call round K:=by kernel_rfl
def Aho(call round:Ad)(K l:Nat):CF:=
 Y8 g2 (put p21 (Y8 g3 (put p22 (mv g6 p23 (Aha call round g21 (fun tm=>[g22 tm,g23 tm]) (put p24 (A8s g24 (put p25 (Ane g25 ((B3 l false .done (some .ret))) ((B3 l true .ready none)))))))))))
def Awr(call round:Ad)(K l:Nat):CF:=
 mv g20 p6 (Xb l (Aho call round K l))
theorem A2z(call round:Ad)(K l:Nat):Py TT call round K 149 27 (some l) (fun id=>B3 l false .done (some (.exit id))) (B3 l false .done (some .ret)) (Eo TT 149 0).2.2.1 [] (Xb l (Py TT call round K 149 27 (some l) (fun id=>B3 l false .done (some (.exit id))) (B3 l false .done (some .ret)) (Eo TT 149 0).2.2.2 [] (B3 l true .ready none)))=Awr call round K l:=by kernel_rfl
end
end Go.Ev

namespace Go.Ev
open Go.Proofs
set_option maxRecDepth 100000
noncomputable section
def A8d:List (Nat × FT):=[(49,F49),(149,A7s)]
def Alo:Nat->Option FT:=fun f=>Ge (pathOf f) (Asl A8d)
end
theorem A53:A6c TP A8d:=⟨Af9.of Awj A80,Af9.of Awj A7a,trivial⟩
theorem Awe:∀ g F,Alo g=some F->Af9 TP g F:=fun g F h=>Aoe A53 (by rw[<-Aml];exact h)
end Go.Ev

namespace Go.Ev
open Go.Proofs
set_option maxRecDepth 100000
noncomputable section
def A3:List EV:=[.int .u32 (.ofNat 0),.int .u32 (.ofNat 4067132163),.int .u32 (.ofNat 3778769143),.int .u32 (.ofNat 324072436),.int .u32 (.ofNat 3348797215),.int .u32 (.ofNat 904991772),.int .u32 (.ofNat 648144872),.int .u32 (.ofNat 3570033899),.int .u32 (.ofNat 2329499855),.int .u32 (.ofNat 2024987596),.int .u32 (.ofNat 1809983544),.int .u32 (.ofNat 2575936315),.int .u32 (.ofNat 1296289744),.int .u32 (.ofNat 3207089363),.int .u32 (.ofNat 2893594407),.int .u32 (.ofNat 1578318884),.int .u32 (.ofNat 274646895),.int .u32 (.ofNat 3795141740),.int .u32 (.ofNat 4049975192),.int .u32 (.ofNat 51262619),.int .u32 (.ofNat 3619967088),.int .u32 (.ofNat 632279923),.int .u32 (.ofNat 922689671),.int .u32 (.ofNat 3298075524),.int .u32 (.ofNat 2592579488),.int .u32 (.ofNat 1760304291),.int .u32 (.ofNat 2075979607),.int .u32 (.ofNat 2312596564),.int .u32 (.ofNat 1562183871),.int .u32 (.ofNat 2943781820),.int .u32 (.ofNat 3156637768),.int .u32 (.ofNat 1313733451),.int .u32 (.ofNat 549293790),.int .u32 (.ofNat 3537243613),.int .u32 (.ofNat 3246849577),.int .u32 (.ofNat 871202090),.int .u32 (.ofNat 3878099393),.int .u32 (.ofNat 357341890),.int .u32 (.ofNat 102525238),.int .u32 (.ofNat 4101499445),.int .u32 (.ofNat 2858735121),.int .u32 (.ofNat 1477399826),.int .u32 (.ofNat 1264559846),.int .u32 (.ofNat 3107202533),.int .u32 (.ofNat 1845379342),.int .u32 (.ofNat 2677391885),.int .u32 (.ofNat 2361733625),.int .u32 (.ofNat 2125378298),.int .u32 (.ofNat 820201905),.int .u32 (.ofNat 3263744690),.int .u32 (.ofNat 3520608582),.int .u32 (.ofNat 598981189),.int .u32 (.ofNat 4151959214),.int .u32 (.ofNat 85089709),.int .u32 (.ofNat 373468761),.int .u32 (.ofNat 3827903834),.int .u32 (.ofNat 3124367742),.int .u32 (.ofNat 1213305469),.int .u32 (.ofNat 1526817161),.int .u32 (.ofNat 2842354314),.int .u32 (.ofNat 2107672161),.int .u32 (.ofNat 2412447074),.int .u32 (.ofNat 2627466902),.int .u32 (.ofNat 1861252501),.int .u32 (.ofNat 1098587580),.int .u32 (.ofNat 3004210879),.int .u32 (.ofNat 2688576843),.int .u32 (.ofNat 1378610760),.int .u32 (.ofNat 2262928035),.int .u32 (.ofNat 1955203488),.int .u32 (.ofNat 1742404180),.int .u32 (.ofNat 2511436119),.int .u32 (.ofNat 3416409459),.int .u32 (.ofNat 969524848),.int .u32 (.ofNat 714683780),.int .u32 (.ofNat 3639785095),.int .u32 (.ofNat 205050476),.int .u32 (.ofNat 4266873199),.int .u32 (.ofNat 3976438427),.int .u32 (.ofNat 526918040),.int .u32 (.ofNat 1361435347),.int .u32 (.ofNat 2739821008),.int .u32 (.ofNat 2954799652),.int .u32 (.ofNat 1114974503),.int .u32 (.ofNat 2529119692),.int .u32 (.ofNat 1691668175),.int .u32 (.ofNat 2005155131),.int .u32 (.ofNat 2247081528),.int .u32 (.ofNat 3690758684),.int .u32 (.ofNat 697762079),.int .u32 (.ofNat 986182379),.int .u32 (.ofNat 3366744552),.int .u32 (.ofNat 476452099),.int .u32 (.ofNat 3993867776),.int .u32 (.ofNat 4250756596),.int .u32 (.ofNat 255256311),.int .u32 (.ofNat 1640403810),.int .u32 (.ofNat 2477592673),.int .u32 (.ofNat 2164122517),.int .u32 (.ofNat 1922457750),.int .u32 (.ofNat 2791048317),.int .u32 (.ofNat 1412925310),.int .u32 (.ofNat 1197962378),.int .u32 (.ofNat 3037525897),.int .u32 (.ofNat 3944729517),.int .u32 (.ofNat 427051182),.int .u32 (.ofNat 170179418),.int .u32 (.ofNat 4165941337),.int .u32 (.ofNat 746937522),.int .u32 (.ofNat 3740196785),.int .u32 (.ofNat 3451792453),.int .u32 (.ofNat 1070968646),.int .u32 (.ofNat 1905808397),.int .u32 (.ofNat 2213795598),.int .u32 (.ofNat 2426610938),.int .u32 (.ofNat 1657317369),.int .u32 (.ofNat 3053634322),.int .u32 (.ofNat 1147748369),.int .u32 (.ofNat 1463399397),.int .u32 (.ofNat 2773627110),.int .u32 (.ofNat 4215344322),.int .u32 (.ofNat 153784257),.int .u32 (.ofNat 444234805),.int .u32 (.ofNat 3893493558),.int .u32 (.ofNat 1021025245),.int .u32 (.ofNat 3467647198),.int .u32 (.ofNat 3722505002),.int .u32 (.ofNat 797665321),.int .u32 (.ofNat 2197175160),.int .u32 (.ofNat 1889384571),.int .u32 (.ofNat 1674398607),.int .u32 (.ofNat 2443626636),.int .u32 (.ofNat 1164749927),.int .u32 (.ofNat 3070701412),.int .u32 (.ofNat 2757221520),.int .u32 (.ofNat 1446797203),.int .u32 (.ofNat 137323447),.int .u32 (.ofNat 4198817972),.int .u32 (.ofNat 3910406976),.int .u32 (.ofNat 461344835),.int .u32 (.ofNat 3484808360),.int .u32 (.ofNat 1037989803),.int .u32 (.ofNat 781091935),.int .u32 (.ofNat 3705997148),.int .u32 (.ofNat 2460548119),.int .u32 (.ofNat 1623424788),.int .u32 (.ofNat 1939049696),.int .u32 (.ofNat 2180517859),.int .u32 (.ofNat 1429367560),.int .u32 (.ofNat 2807687179),.int .u32 (.ofNat 3020495871),.int .u32 (.ofNat 1180866812),.int .u32 (.ofNat 410100952),.int .u32 (.ofNat 3927582683),.int .u32 (.ofNat 4182430767),.int .u32 (.ofNat 186734380),.int .u32 (.ofNat 3756733383),.int .u32 (.ofNat 763408580),.int .u32 (.ofNat 1053836080),.int .u32 (.ofNat 3434856499),.int .u32 (.ofNat 2722870694),.int .u32 (.ofNat 1344288421),.int .u32 (.ofNat 1131464017),.int .u32 (.ofNat 2971354706),.int .u32 (.ofNat 1708204729),.int .u32 (.ofNat 2545590714),.int .u32 (.ofNat 2229949006),.int .u32 (.ofNat 1988219213),.int .u32 (.ofNat 680717673),.int .u32 (.ofNat 3673779818),.int .u32 (.ofNat 3383336350),.int .u32 (.ofNat 1002577565),.int .u32 (.ofNat 4010310262),.int .u32 (.ofNat 493091189),.int .u32 (.ofNat 238226049),.int .u32 (.ofNat 4233660802),.int .u32 (.ofNat 2987750089),.int .u32 (.ofNat 1082061258),.int .u32 (.ofNat 1395524158),.int .u32 (.ofNat 2705686845),.int .u32 (.ofNat 1972364758),.int .u32 (.ofNat 2279892693),.int .u32 (.ofNat 2494862625),.int .u32 (.ofNat 1725896226),.int .u32 (.ofNat 952904198),.int .u32 (.ofNat 3399985413),.int .u32 (.ofNat 3656866545),.int .u32 (.ofNat 731699698),.int .u32 (.ofNat 4283874585),.int .u32 (.ofNat 222117402),.int .u32 (.ofNat 510512622),.int .u32 (.ofNat 3959836397),.int .u32 (.ofNat 3280807620),.int .u32 (.ofNat 837199303),.int .u32 (.ofNat 582374963),.int .u32 (.ofNat 3504198960),.int .u32 (.ofNat 68661723),.int .u32 (.ofNat 4135334616),.int .u32 (.ofNat 3844915500),.int .u32 (.ofNat 390545967),.int .u32 (.ofNat 1230274059),.int .u32 (.ofNat 3141532936),.int .u32 (.ofNat 2825850620),.int .u32 (.ofNat 1510247935),.int .u32 (.ofNat 2395924756),.int .u32 (.ofNat 2091215383),.int .u32 (.ofNat 1878366691),.int .u32 (.ofNat 2644384480),.int .u32 (.ofNat 3553878443),.int .u32 (.ofNat 565732008),.int .u32 (.ofNat 854102364),.int .u32 (.ofNat 3229815391),.int .u32 (.ofNat 340358836),.int .u32 (.ofNat 3861050807),.int .u32 (.ofNat 4117890627),.int .u32 (.ofNat 119113024),.int .u32 (.ofNat 1493875044),.int .u32 (.ofNat 2875275879),.int .u32 (.ofNat 3090270611),.int .u32 (.ofNat 1247431312),.int .u32 (.ofNat 2660249211),.int .u32 (.ofNat 1828433272),.int .u32 (.ofNat 2141937292),.int .u32 (.ofNat 2378227087),.int .u32 (.ofNat 3811616794),.int .u32 (.ofNat 291187481),.int .u32 (.ofNat 34330861),.int .u32 (.ofNat 4032846830),.int .u32 (.ofNat 615137029),.int .u32 (.ofNat 3603020806),.int .u32 (.ofNat 3314634738),.int .u32 (.ofNat 939183345),.int .u32 (.ofNat 1776939221),.int .u32 (.ofNat 2609017814),.int .u32 (.ofNat 2295496738),.int .u32 (.ofNat 2058945313),.int .u32 (.ofNat 2926798794),.int .u32 (.ofNat 1545135305),.int .u32 (.ofNat 1330124605),.int .u32 (.ofNat 3173225534),.int .u32 (.ofNat 4084100981),.int .u32 (.ofNat 17165430),.int .u32 (.ofNat 307568514),.int .u32 (.ofNat 3762199681),.int .u32 (.ofNat 888469610),.int .u32 (.ofNat 3332340585),.int .u32 (.ofNat 3587147933),.int .u32 (.ofNat 665062302),.int .u32 (.ofNat 2042050490),.int .u32 (.ofNat 2346497209),.int .u32 (.ofNat 2559330125),.int .u32 (.ofNat 1793573966),.int .u32 (.ofNat 3190661285),.int .u32 (.ofNat 1279665062),.int .u32 (.ofNat 1595330642),.int .u32 (.ofNat 2910671697)]
def We:EV:=.agg A3
def At1:FT:=fun _ _ _ args h=>@List.rec EV (fun _=>R) (some (We,h)) (fun _ _ _=>none) args
def A0h(_:Nat)(h:Aa):R:=some (We,h)
end
structure Aw(disp:Nat->Option FT):Prop where
 plain:∀ g,A5f g=true->disp g=Alo g
 crc:disp 26=some At1
theorem Avj {disp:Nat->Option FT}(H:Aw disp){K d:Nat}(hd:1<=d)(h:Aa):Ae TT disp K d false 26 [] h=A0h K h:=by
 obtain⟨d,rfl⟩:∃ e,d=e+1:=⟨d-1,by omega⟩
 rw[Ajj H.crc];rfl
noncomputable def Bak(g:Nat):Bool:=As (A5f g) (match Alo g with|none=>true|some _=>false) false
theorem Aw.bare {disp:Nat->Option FT}(H:Aw disp){g:Nat}(e:Bak g=true):disp g=none:=by
 obtain⟨h1,h2⟩:=Rb e
 rw[H.plain g h1]
 cases hx:Alo g with
 | none=>rfl
 | some _=>rw[hx]at h2;cases h2
theorem Um {disp:Nat->Option FT}{g d K:Nat}{args:List EV}{h:Aa}{X:R}{C:Ad}{B:CD}(hn:disp g=none)(hk:A8u TT g (Gx args)=true)(e:Ae TT disp K d false=C)
 (hx:N3 TT C (Ae TT disp K d false) (Ae TT disp K d true) K (nOf TT g) (F2 TT g) .no (Ak0 TT g) [] (F2 TT g)=B) (hy:B (Aoo args 0 u0) h=X):Ae TT disp K (d+1) false g args h=X:=by
 have e0:Ae TT disp K (d+1) false g args h=Ag4 TT (Ae TT disp K d false) (Ae TT disp K d true) K g args h:=by
  have e:Ae TT disp K (d+1) false g args h = @Option.rec FT (fun _=>FnT) (Ag4 TT (Ae TT disp K d false) (Ae TT disp K d true) K g) (fun F=>F (Ae TT disp K d false) (Ae TT disp K d true) K) (disp g) args h:=rfl
  rw[e,hn]
 rw[e0,A01 hk]
 exact(congrArg (fun C=>N3 TT C (Ae TT disp K d false) (Ae TT disp K d true) K (nOf TT g) (F2 TT g) .no (Ak0 TT g) [] (F2 TT g) (Aoo args 0 u0) h) e).trans ((congrFun (congrFun hx _) h).trans hy)
theorem Cj {disp:Nat->Option FT}{g m d K:Nat}{args:List EV}{h:Aa}{X:R}{C:Nat->Ad}{B:Nat->Ad->Ad->CD}(hn:disp g=none)(hd:m+1<=d)(hk:A8u TT g (Gx args)=true)
 (e:∀ d,m<=d->Ae TT disp K d false=C d) (hx:∀ d c r,N3 TT (C d) c r K (nOf TT g) (F2 TT g) .no (Ak0 TT g) [] (F2 TT g)=B d c r) (hy:∀ d c r,B d c r (Aoo args 0 u0) h=X):Ae TT disp K d false g args h=X:=by
 obtain⟨d,rfl⟩:∃ e,d=e+1:=⟨d-1,by omega⟩
 exact Um hn hk (e d (Nat.le_of_succ_le_succ hd)) (hx _ _ _) (hy _ _ _)
end Go.Ev
